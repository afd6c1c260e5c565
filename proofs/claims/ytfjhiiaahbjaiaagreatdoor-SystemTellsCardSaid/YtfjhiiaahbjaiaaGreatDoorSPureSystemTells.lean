/- What variables may be, and are at first: for all names, and all nodes. -/
import Derived.Test.YtfjhiiaahbjaiaaGreatDoorSSystemTellsx28
import Derived.Lib.ItoaLen
import Derived.Laws.Strings
import Derived.KernelRfl
namespace Go.Proofs.YtfjhiiaahbjaiaaGreatDoor.Pure
open Go.RowKit Go.Proofs.YtfjhiiaahbjaiaaGreatDoor.HSystemTells Go.Proofs.YtfjhiiaahbjaiaaGreatDoorW.PrintWords Go.Proofs.YtfjhiiaahbjaiaaGreatDoorW.PrintLast Go.Proofs.YtfjhiiaahbjaiaaGreatDoorW.PrintMore
set_option linter.unusedVariables false
set_option linter.unusedSimpArgs false
theorem w64{n:Int}(h1: -9223372036854775808≤n)(h2:n≤9223372036854775807):wrap64 n=n:=by unfold wrap64;omega
theorem Xdl(b:List Int)(m:Nat)(h:m<b.length):rd b (m:Int)=b[m]:=by unfold rd;rw[List.getD_eq_getElem?_getD,Int.toNat_natCast,List.getElem?_eq_getElem h];rfl
theorem Xfc(b:List S32)(m:Nat)(h:m<b.length):Xa b (m:Int)=b[m]:=by unfold Xa;rw[List.getD_eq_getElem?_getD,Int.toNat_natCast,List.getElem?_eq_getElem h];rfl
def Ev{α:Type}(g:Nat→Option α)(v:α):Prop:=∃k0,∀k,k0≤k→g k=some v
theorem Ev.const{α:Type}(v:α):Ev (fun _=>some v) v:=⟨0,fun _ _=>rfl⟩
theorem Ev.bind{α β:Type}{g:Nat→Option α}{F:Nat→α→Option β}{u:α}{v:β}(h:Ev g u)(h2:Ev (fun k=>F k u) v):Ev (fun k=>(g k).bind (F k)) v:=by obtain⟨a,ha⟩:=h;obtain⟨b,hb⟩:=h2;exact⟨a+b,fun k hk=>by show(g k).bind (F k)=some v;rw[ha k (by omega),Option.bind_some];exact hb k (by omega)⟩
theorem Ev.succ{α:Type}{g:Nat→Option α}{v:α}(h:Ev (fun k=>g (k+1)) v):Ev g v:=by obtain⟨a,ha⟩:=h;refine⟨a+1,fun k hk=>?_⟩;obtain⟨j,rfl⟩:∃j,k=j+1:=⟨k-1,by omega⟩;exact ha j (by omega)
theorem Ev.uniq{α:Type}{g:Nat→Option α}{u v:α}(h:Ev g u)(h2:Ev g v):u=v:=by obtain⟨a,ha⟩:=h;obtain⟨b,hb⟩:=h2;exact Option.some.inj ((ha (a+b) (by omega)).symm.trans (hb (a+b) (by omega)))
theorem Ev.get{α:Type}{g:Nat→Option α}{v:α}(h:Ev g v):∃k,g k=some v:=by obtain⟨a,ha⟩:=h;exact⟨a,ha a (Nat.le_refl _)⟩
theorem ix{i n:Nat}(h:i<n)(hn:n≤9223372036854775807):wrap64 ((i:Int)+1)=((i+1:Nat):Int):=by rw[w64 (by omega) (by omega)];omega
theorem count1_some(a:Int):∃t,Xb9.f a=some t∧(t=false→0≤a∧a≤1048576):=by
 unfold Xb9.f;by_cases h:a<0
 ·exact⟨true,if_pos h,by simp⟩
 ·refine⟨decide (a>1048576),if_neg h,fun e=>?_⟩;have:=of_decide_eq_false e;omega
theorem index1_ev(l:List Int)(hl:l.length≤9223372036854775807):∀d i,i≤l.length→l.length-i=d→∃v,Ev (fun k=>Xu.l0 k l (l.length:Int) (i:Int)) v:=by
 intro d
 induction d with
 |zero=> intro i h1 h2;refine⟨-1,Ev.succ ?_⟩;simp only[Xu.l0,if_neg (show¬((i:Int)<(l.length:Int)) by omega)];exact Ev.const _
 |succ d ih=>
  intro i h1 h2;have hi:i<l.length:=by omega
  obtain⟨t,ht,_⟩:=count1_some (rd l (i:Int));obtain⟨v,hv⟩:=ih (i+1) (by omega) (by omega);cases t with
  |true=> refine⟨(i:Int),Ev.succ ?_⟩;simp only[Xu.l0,if_pos (show((i:Int)<(l.length:Int)) by omega),if_pos (show(0:Int)≤(i:Int) by omega),ht];exact Ev.bind (Ev.const _) (Ev.const _)
  |false=> refine⟨v,Ev.succ ?_⟩;simp only[Xu.l0,if_pos (show((i:Int)<(l.length:Int)) by omega),if_pos (show(0:Int)≤(i:Int) by omega),ht,ix hi hl];exact Ev.bind (Ev.const _) hv
theorem index_ev(l:List Int)(a:Int)(hl:l.length≤9223372036854775807):∀d i,i≤l.length→l.length-i=d→∃v,Ev (fun k=>Xy.l0 k l a (l.length:Int) (i:Int)) v:=by
 intro d
 induction d with
 |zero=> intro i h1 h2;refine⟨-1,Ev.succ ?_⟩;simp only[Xy.l0,if_neg (show¬((i:Int)<(l.length:Int)) by omega)];exact Ev.const _
 |succ d ih=>
  intro i h1 h2;have hi:i<l.length:=by omega
  obtain⟨v,hv⟩:=ih (i+1) (by omega) (by omega);by_cases e:a=rd l (i:Int)
  ·refine⟨(i:Int),Ev.succ ?_⟩;simp only[Xy.l0,if_pos (show((i:Int)<(l.length:Int)) by omega),if_pos (show(0:Int)≤(i:Int) by omega),if_pos e];exact Ev.const _
  ·refine⟨v,Ev.succ ?_⟩;simp only[Xy.l0,if_pos (show((i:Int)<(l.length:Int)) by omega),if_pos (show(0:Int)≤(i:Int) by omega),if_neg e,ix hi hl];exact hv
theorem countl_ev(l:List Int)(hl:l.length≤9223372036854775807):∀d i x,i≤l.length→l.length-i=d→0≤x→x≤1048576→∃c b,Ev (fun k=>X6.l0 k x l (l.length:Int) (i:Int)) (c,b)∧0≤c∧c≤1048576:=by
 intro d
 induction d with
 |zero=> intro i x h1 h2 hx0 hx1;refine⟨x,true,Ev.succ ?_,hx0,hx1⟩;simp only[X6.l0,if_neg (show¬((i:Int)<(l.length:Int)) by omega)];exact Ev.const _
 |succ d ih=>
  intro i x h1 h2 hx0 hx1;have hi:i<l.length:=by omega
  obtain⟨t,ht,hb⟩:=count1_some (wrap64 (x*rd l (i:Int)));cases t with
  |true=> refine⟨0,false,Ev.succ ?_,by omega,by omega⟩;simp only[X6.l0,if_pos (show((i:Int)<(l.length:Int)) by omega),if_pos (show(0:Int)≤(i:Int) by omega),ht];exact Ev.bind (Ev.const _) (Ev.const _)
  |false=> obtain⟨c,b,hv,h3⟩:=ih (i+1) (wrap64 (x*rd l (i:Int))) (by omega) (by omega) (hb rfl).1 (hb rfl).2;refine⟨c,b,Ev.succ ?_,h3⟩;simp only[X6.l0,if_pos (show((i:Int)<(l.length:Int)) by omega),if_pos (show(0:Int)≤(i:Int) by omega),ht,ix hi hl];exact Ev.bind (Ev.const _) hv
theorem count_ev(l:List Int):∃c b,Ev (fun k=>X6.f k l) (c,b)∧0≤c∧c≤1048576:=by
 by_cases h:(l.length:Int)>16
 ·refine⟨0,false,?_,by omega,by omega⟩;simp only[X6.f,if_pos h];refine Ev.succ ?_;simp only[X6.j0];exact Ev.const _
 ·have hl:l.length≤9223372036854775807:=by omega
  obtain⟨v1,e1⟩:=index1_ev l hl l.length 0 (by omega) (by omega);obtain⟨v2,e2⟩:=index_ev l 0 hl l.length 0 (by omega) (by omega);obtain⟨c,b,e3,hc⟩:=countl_ev l hl l.length 0 1 (by omega) (by omega) (by omega) (by omega);simp only[X6.f,if_neg h,Xao.f,Xu.f];have hf:∀t,∃c b,Ev (fun k=>X6.j0 k l t) (c,b)∧0≤c∧c≤1048576:=by
   intro t;cases t with
   |true=> refine⟨0,false,Ev.succ ?_,by omega,by omega⟩;simp only[X6.j0];exact Ev.const _
   |false=>
    cases hd:decide (v2≥0)with
    |true=> refine⟨0,true,Ev.succ ?_,by omega,by omega⟩;simp only[X6.j0,Xaq.f,Xy.f];refine Ev.bind (u:=true) (Ev.bind e2 (by simp only[hd];exact Ev.const _)) (Ev.const _)
    |false=> refine⟨c,b,Ev.succ ?_,hc⟩;simp only[X6.j0,Xaq.f,Xy.f];exact Ev.bind (u:=false) (Ev.bind e2 (by simp only[hd];exact Ev.const _)) e3
  obtain⟨c',b',e4,hc'⟩:=hf (decide (v1≥0));exact⟨c',b',Ev.bind (Ev.bind e1 (Ev.const _)) e4,hc'⟩
theorem valid_ev(a:Int):∃v,Ev (fun k=>Xaf.f k a) v:=by
 have hj:∀t,∃v,Ev (fun k=>Xaf.j0 k a t) v:=by
  intro t;cases t with
  |true=>exact⟨true,Ev.succ (by simp only[Xaf.j0];exact Ev.const _)⟩
  |false=>
   by_cases h1:57343<a
   ·by_cases h2:a≤1114111
    ·exact⟨true,Ev.succ (by simp only[Xaf.j0,if_pos h1,if_pos h2];exact Ev.const _)⟩
    ·exact⟨false,Ev.succ (by simp only[Xaf.j0,if_pos h1,if_neg h2];exact Ev.const _)⟩
   ·exact⟨false,Ev.succ (by simp only[Xaf.j0,if_neg h1];exact Ev.const _)⟩
 by_cases h:0≤a
 ·simp only[Xaf.f,if_pos h];exact hj _
 ·simp only[Xaf.f,if_neg h];exact hj _
theorem fits_ev(a b:Int):∃v,Ev (fun k=>Xbw.f k a b) v:=by
 by_cases h1:a=1
 ·simp only[Xbw.f,if_pos h1];exact⟨_,Ev.const _⟩
 ·by_cases h2:a=2
  ·simp only[Xbw.f,if_neg h1,if_pos h2];exact⟨_,Ev.const _⟩
  ·by_cases h3:a=3
   ·by_cases h4:b=wrap64 (wrap32 b)
    ·obtain⟨v,hv⟩:=valid_ev (wrap32 b);refine⟨v,?_⟩;simp only[Xbw.f,if_neg h1,if_neg h2,if_pos h3,if_pos h4];exact Ev.bind hv (Ev.const _)
    ·simp only[Xbw.f,if_neg h1,if_neg h2,if_pos h3,if_neg h4];exact⟨_,Ev.const _⟩
   ·simp only[Xbw.f,if_neg h1,if_neg h2,if_neg h3];exact⟨_,Ev.const _⟩
theorem wrongs_ev(l:List Int)(a:Int)(hl:l.length≤9223372036854775807):∀d i,i≤l.length→l.length-i=d→∃v,Ev (fun k=>X7.l0 k a l (l.length:Int) (i:Int)) v:=by
 intro d
 induction d with
 |zero=> intro i h1 h2;refine⟨false,Ev.succ ?_⟩;simp only[X7.l0,if_neg (show¬((i:Int)<(l.length:Int)) by omega)];exact Ev.const _
 |succ d ih=>
  intro i h1 h2;have hi:i<l.length:=by omega
  obtain⟨t,ht⟩:=fits_ev a (rd l (i:Int));obtain⟨v,hv⟩:=ih (i+1) (by omega) (by omega);cases t with
  |true=> refine⟨v,Ev.succ ?_⟩;simp only[X7.l0,if_pos (show((i:Int)<(l.length:Int)) by omega),if_pos (show(0:Int)≤(i:Int) by omega),Xb3.f,ix hi hl];exact Ev.bind (u:=true) (Ev.bind ht (Ev.const _)) hv
  |false=> refine⟨true,Ev.succ ?_⟩;simp only[X7.l0,if_pos (show((i:Int)<(l.length:Int)) by omega),if_pos (show(0:Int)≤(i:Int) by omega),Xb3.f];exact Ev.bind (u:=false) (Ev.bind ht (Ev.const _)) (Ev.const _)
theorem norm_ev:∀(d:Nat)(x e:Int),-9223372036854775808≤e→e≤9223372036854775807→(32768-e).toNat≤d→∃v,Ev (fun k=>X8.l0 k x e) v:=by
 intro d
 induction d with
 |zero=>
  intro x e h1 h2 h3;have h4:¬e≤32767:=by omega
  have h5:¬e< -32768:=by omega
  have h6:e>32767:=by omega
  refine⟨(0,0,false),Ev.succ ?_⟩;by_cases h:Int.tmod x 10=0
  ·simp only[X8.l0,if_pos h,if_neg h4,if_neg h5,if_pos h6];exact Ev.const _
  ·simp only[X8.l0,if_neg h,if_neg h5,if_pos h6];exact Ev.const _
 |succ d ih=>
  intro x e h1 h2 h3;have hl:∃v:Int×Int×Bool,(if e< -32768 then some (0,0,false)else if e>32767 then some (0,0,false)else some (x,e,true))=some v:=by
   split
   ·exact⟨_,rfl⟩
   ·split<;>exact⟨_,rfl⟩
  obtain⟨v,hv⟩:=hl;by_cases h:Int.tmod x 10=0
  ·by_cases h4:e≤32767
   ·have hw:wrap64 (e+1)=e+1:=w64 (by omega) (by omega);obtain⟨v',hv'⟩:=ih (wrap64 (Int.tdiv x 10)) (wrap64 (e+1)) (by omega) (by omega) (by omega);refine⟨v',Ev.succ ?_⟩;simp only[X8.l0,if_pos h,if_pos h4];exact hv'
   ·refine⟨v,Ev.succ ?_⟩;simp only[X8.l0,if_pos h,if_neg h4,hv];exact Ev.const _
  ·refine⟨v,Ev.succ ?_⟩;simp only[X8.l0,if_neg h,hv];exact Ev.const _
def OkD(y:S35):Prop:= -9223372036854775808≤y.f1∧y.f1≤9223372036854775807
def Ok(n:S32):Prop:=∀y∈n.f3,OkD y
theorem decright_ev(y:S35)(h:OkD y):∃v,Ev (fun k=>Xaa.f k y.f0 y.f1) v:=by
 have hn:∃v,Ev (fun k=>X8.f k y.f0 y.f1) v:=by
  by_cases h0:y.f0=0
  ·simp only[X8.f,if_pos h0];exact⟨_,Ev.const _⟩
  ·simp only[X8.f,if_neg h0];exact norm_ev _ y.f0 y.f1 h.1 h.2 (Nat.le_refl _)
 obtain⟨⟨a,b,c⟩,hv⟩:=hn;cases c with
 |true=>exact⟨_,Ev.bind hv (Ev.const _)⟩
 |false=>exact⟨_,Ev.bind hv (Ev.const _)⟩
theorem decs_ev(l:List S35)(ok:∀y∈l,OkD y)(hl:l.length≤9223372036854775807):∀d i,i≤l.length→l.length-i=d→∃v,Ev (fun k=>Xa5.l0 k l (l.length:Int) (i:Int)) v:=by
 intro d
 induction d with
 |zero=> intro i h1 h2;refine⟨false,Ev.succ ?_⟩;simp only[Xa5.l0,if_neg (show¬((i:Int)<(l.length:Int)) by omega)];exact Ev.const _
 |succ d ih=>
  intro i h1 h2;have hi:i<l.length:=by omega
  have hr:Xw l (i:Int)=l[i]:=by unfold Xw;rw[List.getD_eq_getElem?_getD,Int.toNat_natCast,List.getElem?_eq_getElem hi];rfl
  obtain⟨t,ht⟩:=decright_ev (Xw l (i:Int)) (by rw[hr];exact ok _ (List.getElem_mem _));obtain⟨v,hv⟩:=ih (i+1) (by omega) (by omega);cases t with
  |true=> refine⟨v,Ev.succ ?_⟩;simp only[Xa5.l0,if_pos (show((i:Int)<(l.length:Int)) by omega),if_pos (show(0:Int)≤(i:Int) by omega),ix hi hl];exact Ev.bind ht hv
  |false=> refine⟨true,Ev.succ ?_⟩;simp only[Xa5.l0,if_pos (show((i:Int)<(l.length:Int)) by omega),if_pos (show(0:Int)≤(i:Int) by omega)];exact Ev.bind ht (Ev.const _)
theorem items1_ev(x3 x5 x6 a a':Int)(b c:List Int)(e:List S35)(ok:∀y∈e,OkD y)(h0:0≤x3)(h1:x3≤1048576)(h5:x5≤1048576)(h6:x6≤1048576):
  ∃v,Ev (fun k=>Xx.j1 k x3 x5 x6 a a' b c e) v∧(v= -1∨(v=x3∧(c.length:Int)=x5∧(e.length:Int)=x6)):=by
 by_cases g1:(c.length:Int)=x5
 ·by_cases g2:(e.length:Int)=x6
  ·obtain⟨t,ht⟩:=wrongs_ev c a (by omega) c.length 0 (by omega) (by omega);obtain⟨s,hs⟩:=decs_ev e ok (by omega) e.length 0 (by omega) (by omega);cases t with
   |true=> refine⟨-1,Ev.succ ?_,.inl rfl⟩;simp only[Xx.j1,if_pos g1,if_pos g2,X7.f];exact Ev.bind ht (Ev.const _)
   |false=>
    cases s with
    |true=> refine⟨-1,Ev.succ ?_,.inl rfl⟩;simp only[Xx.j1,if_pos g1,if_pos g2,X7.f,Xa5.f];exact Ev.bind ht (Ev.bind hs (Ev.const _))
    |false=> refine⟨x3,Ev.succ ?_,.inr ⟨rfl,g1,g2⟩⟩;simp only[Xx.j1,if_pos g1,if_pos g2,X7.f,Xa5.f];exact Ev.bind ht (Ev.bind hs (Ev.const _))
  ·refine⟨-1,Ev.succ ?_,.inl rfl⟩;simp only[Xx.j1,if_pos g1,if_neg g2];exact Ev.const _
 ·refine⟨-1,Ev.succ ?_,.inl rfl⟩;simp only[Xx.j1,if_neg g1];exact Ev.const _
theorem items0_ev(x3 a a':Int)(t:Bool)(b c:List Int)(e:List S35)(ok:∀y∈e,OkD y)(h0:0≤x3)(h1:x3≤1048576):
  ∃v,Ev (fun k=>Xx.j0 k x3 0 0 a t a' b c e) v∧(v= -1∨(v=x3∧(a=5→t=false→c=[]∧e=[])∧(a≠5→v≤(c.length:Int)∨v≤(e.length:Int)))):=by
 cases t with
 |true=> obtain⟨v,hv,hb⟩:=items1_ev x3 x3 0 a a' b c e ok h0 h1 h1 (by omega);exact⟨v,Ev.succ (by simp only[Xx.j0];exact hv),hb.imp id fun h=>⟨h.1,fun _ h'=>by simp at h',fun _=>.inl (by omega)⟩⟩
 |false=>
  by_cases g1:a=4
  ·obtain⟨v,hv,hb⟩:=items1_ev x3 0 x3 a a' b c e ok h0 h1 (by omega) h1;exact⟨v,Ev.succ (by simp only[Xx.j0,if_pos g1];exact hv),hb.imp id fun h=>⟨h.1,fun h' _=>by omega,fun _=>.inr (by omega)⟩⟩
  ·by_cases g2:a=5
   ·obtain⟨v,hv,hb⟩:=items1_ev x3 0 0 a a' b c e ok h0 h1 (by omega) (by omega);exact⟨v,Ev.succ (by simp only[Xx.j0,if_neg g1,if_pos g2];exact hv),hb.imp id fun h=>⟨h.1,fun _ _=>⟨List.eq_nil_of_length_eq_zero (by omega),List.eq_nil_of_length_eq_zero (by omega)⟩,fun h'=>absurd g2 h'⟩⟩
   ·exact⟨-1,Ev.succ (by simp only[Xx.j0,if_neg g1,if_neg g2];exact Ev.const _),.inl rfl⟩
def Spec(n:S32)(v:Int):Prop:=Ev (fun k=>X6.f k n.f1) (v,true)∧0≤v∧v≤1048576∧(n.f0=5→n.f2=[]∧n.f3=[])∧(n.f0≠5→v≤(n.f2.length:Int)∨v≤(n.f3.length:Int))
theorem items_ev(n:S32)(ok:Ok n):∃v,Ev (fun k=>Xx.f k n.f0 n.f1 n.f2 n.f3) v∧(v= -1∨Spec n v):=by
 obtain⟨c,b,hc,h0,h1⟩:=count_ev n.f1;cases b with
 |true=>
  have hr:∃v,Ev (fun k=>(if n.f0=1 then(Xx.j0 k c 0 0 n.f0 (n.f0==1) n.f0 n.f1 n.f2 n.f3)else(if n.f0=2 then(Xx.j0 k c 0 0 n.f0 (n.f0==2) n.f0 n.f1 n.f2 n.f3)else(Xx.j0 k c 0 0 n.f0 (n.f0==3) n.f0 n.f1 n.f2 n.f3)))) v∧(v= -1∨(v=c∧(n.f0=5→n.f2=[]∧n.f3=[])∧(n.f0≠5→v≤(n.f2.length:Int)∨v≤(n.f3.length:Int)))):=by
   by_cases g1:n.f0=1
   ·simp only[if_pos g1];obtain⟨v,hv,hb⟩:=items0_ev c n.f0 n.f0 (n.f0==1) n.f1 n.f2 n.f3 ok h0 h1;exact⟨v,hv,hb.imp id fun h=>⟨h.1,fun h'=>by omega,h.2.2⟩⟩
   ·by_cases g2:n.f0=2
    ·simp only[if_neg g1,if_pos g2];obtain⟨v,hv,hb⟩:=items0_ev c n.f0 n.f0 (n.f0==2) n.f1 n.f2 n.f3 ok h0 h1;exact⟨v,hv,hb.imp id fun h=>⟨h.1,fun h'=>by omega,h.2.2⟩⟩
    ·simp only[if_neg g1,if_neg g2];obtain⟨v,hv,hb⟩:=items0_ev c n.f0 n.f0 (n.f0==3) n.f1 n.f2 n.f3 ok h0 h1;exact⟨v,hv,hb.imp id fun h=>⟨h.1,fun h'=>h.2.1 h' (beq_eq_false_iff_ne.mpr (by omega)),h.2.2⟩⟩
  obtain⟨v,hv,hb⟩:=hr;refine⟨v,?_,hb.imp id fun h=>?_⟩
  ·simp only[Xx.f];exact Ev.bind hc hv
  ·refine⟨by rw[h.1];exact hc,by rw[h.1];exact h0,by rw[h.1];exact h1,h.2⟩
 |false=> refine⟨-1,?_,.inl rfl⟩;simp only[Xx.f];exact Ev.bind hc (Ev.const _)
noncomputable def itm (n:S32):Int:=open Classical in if h:∃v,Ev (fun k=>Xx.f k n.f0 n.f1 n.f2 n.f3) v∧(v= -1∨Spec n v)then h.choose else -1
theorem itm_le(n:S32):itm n≤1048576:=by
 unfold itm;split
 ·next h=>
  rcases h.choose_spec.2 with e|e
  ·omega
  ·exact e.2.2.1
 ·omega
theorem itm_said(n:S32)(ok:Ok n):Ev (fun k=>Xx.f k n.f0 n.f1 n.f2 n.f3) (itm n)∧(itm n= -1∨Spec n (itm n)):=by
 obtain⟨v,hv,hb⟩:=items_ev n ok;have h:∃v,Ev (fun k=>Xx.f k n.f0 n.f1 n.f2 n.f3) v∧(v= -1∨Spec n v):=⟨v,hv,hb⟩;have e:itm n=v:=by unfold itm;rw[dif_pos h];exact Ev.uniq h.choose_spec.1 hv
 rw[e];exact⟨hv,hb⟩
theorem itm_ev(n:S32)(ok:Ok n):Ev (fun k=>Xx.f k n.f0 n.f1 n.f2 n.f3) (itm n)∧ -1≤itm n∧itm n≤1048576:=by
 obtain⟨h,hb⟩:=itm_said n ok;refine⟨h,?_⟩;rcases hb with e|e
 ·omega
 ·have:=e.2.1;have:=e.2.2.1;omega
def dec1(v:Int):Int:=wrap64 (v-1)
def decT:List Int→List Int
 |[]=>[]
 |x::s=>dec1 x::s
theorem Xd9(s:List Int):(decT s).length=s.length:=by cases s<;>rfl
def clrN:Nat→List Int→List Int
 |0,s=>s
 |_+1,[]=>[]
 |n+1,x::s=>if x=0 then clrN n (decT s)else x::s
def clr(s:List Int):List Int:=clrN s.length s
theorem clr_nil:clr []=[]:=rfl
theorem Xeh(x:Int)(s:List Int):clr (x::s)=if x=0 then clr (decT s)else x::s:=by unfold clr;rw[Xd9];rfl
theorem clr_length:∀(n:Nat)(s:List Int),s.length≤n→(clr s).length≤s.length:=by
 intro n
 induction n with
 |zero=> intro s hs;obtain rfl:=List.eq_nil_of_length_eq_zero (Nat.le_zero.1 hs);exact Nat.le_refl _
 |succ n ih=>
  intro s hs;cases s with
  |nil=>exact Nat.le_refl _
  |cons x s=>
   rw[Xeh];split
   ·have:=ih (decT s) (by rw[Xd9];simp only[List.length_cons]at hs;omega);rw[Xd9]at this;simp only[List.length_cons];omega
   ·exact Nat.le_refl _
noncomputable def Xd5 (st:List Int) (n:S32):List Int:=if n.f0=5 then itm n::st else decT st
theorem push_length(st:List Int)(n:S32):(Xd5 st n).length≤st.length+1:=by
 unfold Xd5;split
 ·exact Nat.le_refl _
 ·rw[Xd9];omega
open Classical in
noncomputable def Xc1:Int→Int→List Int→Int→List S32→Int×Int×Int
 |_,_,_,_,[]=>(0,0,0)
 |all,deep,st,i,n::r=>
  if itm n<0∨wrap64 (all+itm n)>1048576∨16≤st.length then(0,0,0)
  else if clr (Xd5 st n)=[]then(i+1,wrap64 (all+itm n),mx deep (wrap64 ((st.length:Int)+1)))
  else Xc1 (wrap64 (all+itm n)) (mx deep (wrap64 ((st.length:Int)+1))) (clr (Xd5 st n)) (i+1) r
theorem last_ix{n:Nat}(h:0<n)(hn:n≤9223372036854775807):wrap64 ((n:Int)-1)=((n-1:Nat):Int):=by rw[w64 (by omega) (by omega)];omega
theorem rev_last(x:Int)(s:List Int):rd (x::s).reverse ((s.length:Nat):Int)=x:=by rw[Xdl _ _ (by simp)];simp
theorem rev_set(x v:Int)(s:List Int):(x::s).reverse.set s.length v=(v::s).reverse:=by simp only[List.reverse_cons];rw[List.set_append_right _ _ (by simp)];simp
theorem rev_take(x:Int)(s:List Int):(x::s).reverse.take s.length=s.reverse:=by rw[List.reverse_cons];rw[List.take_append_of_le_length (by simp)];exact List.take_of_length_le (by simp)
theorem pop_ev(all deep i6:Int)(x9:List S32)(x10 x11:Int)(v:Int×Int×Int):∀(n:Nat)(st:List Int),st.length≤n→st.length≤100→
  Ev (fun k=>Xt.j4 k all deep (clr st).reverse i6 x9 x10 x11 false) v→Ev (fun k=>Xt.l1 k all deep st.reverse i6 x9 x10 x11) v:=by
 intro n
 induction n with
 |zero=> intro st hs hc h;obtain rfl:=List.eq_nil_of_length_eq_zero (Nat.le_zero.1 hs);refine Ev.succ ?_;simp only[Xt.l1,List.reverse_nil,List.length_nil,if_neg (show¬(((0:Nat):Int)>0) by decide)];exact h
 |succ n ih=>
  intro st hs hc h;cases st with
  |nil=> refine Ev.succ ?_;simp only[Xt.l1,List.reverse_nil,List.length_nil,if_neg (show¬(((0:Nat):Int)>0) by decide)];exact h
  |cons x s=>
   simp only[List.length_cons]at hs hc;have hL:(x::s).reverse.length=s.length+1:=by simp
   have hw:wrap64 (((s.length+1:Nat):Int)-1)=((s.length:Nat):Int):=last_ix (by omega) (by omega);refine Ev.succ ?_;simp only[Xt.l1,hL,hw,if_pos (show(((s.length+1:Nat):Int)>0) by omega),if_pos (show(0:Int)≤((s.length:Nat):Int) by omega),if_pos (show((s.length:Nat):Int)<((s.length+1:Nat):Int) by omega),rev_last];rw[Xeh]at h;by_cases e:x=0
   ·rw[if_pos e]at h;subst e;refine Ev.succ ?_;simp only[Xt.j4,hL,hw,BEq.rfl,if_true,if_pos (show(0:Int)≤((s.length:Nat):Int) by omega),if_pos (show((s.length:Nat):Int)≤((s.length+1:Nat):Int) by omega),Int.toNat_natCast,rev_take,Option.bind_some,List.length_reverse];cases s with
    |nil=> simp only[List.length_nil,if_neg (show¬(((0:Nat):Int)>0) by decide)];exact ih [] (by simp) (by simp) h
    |cons y s=> have hw2:wrap64 (((s.length+1:Nat):Int)-1)=((s.length:Nat):Int):=last_ix (by omega) (by simp only[List.length_cons]at hc;omega);simp only[List.length_cons,hw2,if_pos (show(((s.length+1:Nat):Int)>0) by omega),if_pos (show(0:Int)≤((s.length:Nat):Int) by omega),if_pos (show((s.length:Nat):Int)<((s.length+1:Nat):Int) by omega),rev_last,Int.toNat_natCast,rev_set];exact ih (dec1 y::s) (by simp only[List.length_cons]at hs⊢;omega) (by simp only[List.length_cons]at hc⊢;omega) h
   ·rw[if_neg e]at h;rw[show(x==0)=false from beq_eq_false_iff_ne.mpr e];exact h
theorem walk_ev(l:List S32)(ok:∀n∈l,Ok n)(hl:l.length≤9223372036854775807):∀d i,i≤l.length→l.length-i=d→∀(all deep:Int)(st:List Int),st.length≤17→
    Ev (fun k=>Xt.l0 k all deep st.reverse l (l.length:Int) (i:Int)) (Xc1 all deep st (i:Int) (l.drop i)):=by
  intro d
  induction d with
  |zero=> intro i h1 h2 all deep st hs;have hd:l.drop i=[]:=List.drop_eq_nil_of_le (by omega);rw[hd];refine Ev.succ ?_;simp only[Xt.l0,if_neg (show¬((i:Int)<(l.length:Int)) by omega)];exact Ev.const _
  |succ d ih=>
    intro i h1 h2 all deep st hs;have hi:i<l.length:=by omega
    have hd:l.drop i=l[i]::l.drop (i+1):=(List.drop_eq_getElem_cons hi);rw[hd];generalize hn:l[i]=n;have okn:Ok n:=by rw[←hn];exact ok _ (List.getElem_mem _)
    obtain⟨hit,hb0,hb1⟩:=itm_ev n okn;have hrd:Xa l (i:Int)=n:=by rw[Xfc l i hi,hn]
    have hfail:∀(a b:Int),Ev (fun k=>Xt.j1 k (wrap64 (all+itm n)) deep st.reverse (i:Int) (itm n) l (l.length:Int) (i:Int) true n.f0 n.f1 n.f2 n.f3) (0,0,0):=fun _ _=>Ev.succ (by simp only[Xt.j1];exact Ev.const _);have hgo:st.length<16→Ev (fun k=>Xt.j2 k (wrap64 (all+itm n)) (mx deep (wrap64 ((st.length:Int)+1))) (Xd5 st n).reverse (i:Int) l (l.length:Int) (i:Int))
        (if clr (Xd5 st n)=[]then((i:Int)+1,wrap64 (all+itm n),mx deep (wrap64 ((st.length:Int)+1)))else Xc1 (wrap64 (all+itm n)) (mx deep (wrap64 ((st.length:Int)+1))) (clr (Xd5 st n)) ((i:Int)+1) (l.drop (i+1))):=by
      intro hst;refine Ev.succ ?_;simp only[Xt.j2];have hp:=push_length st n;refine pop_ev _ _ _ _ _ _ _ (Xd5 st n).length (Xd5 st n) (Nat.le_refl _) (by omega) ?_;refine Ev.succ ?_;simp only[Xt.j4,Bool.false_eq_true,if_false,List.length_reverse];have hcl:=clr_length (Xd5 st n).length (Xd5 st n) (Nat.le_refl _);by_cases e:clr (Xd5 st n)=[]
      · simp only[e,List.length_nil,if_pos (show(((0:Nat):Int))=0 by rfl),if_true];rw[show wrap64 ((i:Int)+1)=(i:Int)+1 by rw[ix hi hl];omega];exact Ev.const _
      · have hz:¬(((clr (Xd5 st n)).length:Int)=0):=fun h0=>e (List.eq_nil_of_length_eq_zero (by omega));simp only[if_neg e,if_neg hz,ix hi hl];have hi1:((i:Int)+1)=((i+1:Nat):Int):=by omega
        rw[hi1];exact ih (i+1) (by omega) (by omega) _ _ _ (by omega)
    refine Ev.succ ?_;simp only[Xt.l0,if_pos (show((i:Int)<(l.length:Int)) by omega),if_pos (show(0:Int)≤(i:Int) by omega),hrd];refine Ev.bind hit ?_;by_cases g1:itm n<0
    · simp only[Xc1,if_pos g1,if_pos (show itm n<0∨wrap64 (all+itm n)>1048576∨16≤st.length from .inl g1)];exact hfail 0 0
    · by_cases g2:wrap64 (all+itm n)>1048576
      · simp only[Xc1,if_neg g1,if_pos g2,if_pos (show itm n<0∨wrap64 (all+itm n)>1048576∨16≤st.length from .inr (.inl g2))];exact hfail 0 0
      · simp only[if_neg g1,if_neg g2,List.length_reverse];by_cases g3:16≤st.length
        · simp only[Xc1,if_pos (show itm n<0∨wrap64 (all+itm n)>1048576∨16≤st.length from .inr (.inr g3)),decide_eq_true (show((st.length:Int)≥16) by omega)];exact hfail 0 0
        · simp only[Xc1,if_neg (show¬(itm n<0∨wrap64 (all+itm n)>1048576∨16≤st.length)from fun h=>h.elim g1 fun h=>h.elim g2 g3),decide_eq_false (show¬((st.length:Int)≥16) by omega)];refine Ev.succ ?_;simp only[Xt.j1,Bool.false_eq_true,if_false,List.length_reverse];replace hgo:=hgo (by omega);unfold Xd5 at hgo;by_cases g5:n.f0=5
          · simp only[if_pos g5]at hgo;simp only[if_pos g5,if_pos (show st.length<17592186044416 by omega)];unfold Xd5;simp only[if_pos g5];rw[List.reverse_cons]at hgo;exact hgo
          · simp only[if_neg g5]at hgo⊢;unfold Xd5;simp only[if_neg g5];cases st with
            |nil=>exact hgo
            |cons x s=> have hw:wrap64 (((s.length+1:Nat):Int)-1)=((s.length:Nat):Int):=last_ix (by omega) (by simp only[List.length_cons]at hs;omega);simp only[List.length_cons,hw,if_pos (show(((s.length+1:Nat):Int)>0) by omega),if_pos (show(0:Int)≤((s.length:Nat):Int) by omega),if_pos (show((s.length:Nat):Int)<((s.length+1:Nat):Int) by omega),rev_last,Int.toNat_natCast,rev_set];simp only[List.length_cons]at hgo;exact hgo
noncomputable def tk (l:List S32):Int:=(Xc1 0 0 [] 0 l).1
theorem walkf_ev(l:List S32)(ok:∀n∈l,Ok n)(hl:l.length≤9223372036854775807):Ev (fun k=>Xt.f k l) (Xc1 0 0 [] 0 l):=by have:=walk_ev l ok hl l.length 0 (by omega) (by omega) 0 0 [] (by simp);simp only[Xt.f];exact this
theorem take_ev(l:List S32)(ok:∀n∈l,Ok n)(hl:l.length≤9223372036854775807):Ev (fun k=>Xce.f k l) (tk l):=by simp only[Xce.f];exact Ev.bind (walkf_ev l ok hl) (Ev.const _)
noncomputable def rt (l:List S32):Bool:=if(l.length:Int)>0 then(tk l==(l.length:Int))else false
theorem right_ev(l:List S32)(ok:∀n∈l,Ok n)(hl:l.length≤9223372036854775807):Ev (fun k=>Xbt.f k l) (rt l):=by
 unfold rt;by_cases h:(l.length:Int)>0
 ·simp only[Xbt.f,if_pos h];exact Ev.bind (take_ev l ok hl) (Ev.const _)
 ·simp only[Xbt.f,if_neg h];exact Ev.const _
def Fits(n:S32):Prop:=n.f1.length≤30∧n.f2.length≤300∧n.f3.length≤300
namespace Sh
theorem w64{n:Int}(h1: -9223372036854775808≤n)(h2:n≤9223372036854775807):wrap64 n=n:=by unfold wrap64;omega
theorem Xdl(b:List Int)(m:Nat)(h:m<b.length):rd b (m:Int)=b[m]:=by unfold rd;rw[List.getD_eq_getElem?_getD,Int.toNat_natCast,List.getElem?_eq_getElem h];rfl
theorem up64(m:Nat)(h:m≤1000000):wrap64 ((m:Int)+1)=((m+1:Nat):Int):=by rw[w64 (by omega) (by omega)];omega
def bad(x:Int):Bool:=decide (x<0∨1048576<x)
def isz(x:Int):Bool:=decide (0=x)
def P:List Int→Int
 |[]=>1
 |x::r=>x*P r
def cnt2(s:List Int):Int×Bool:=if s.any bad=true then(0,false)else if s.any isz=true then(0,true)else if P s≤1048576 then(P s,true)else(0,false)
def cnt(s:List Int):Int×Bool:=if s.length>16 then(0,false)else cnt2 s
theorem one_f(a:Int):Xb9.f a=some (bad a):=by
 unfold Xb9.f bad;by_cases c:a<0
 ·rw[if_pos c];simp[c]
 ·rw[if_neg c];simp[c]
theorem ifunc_loop(s:List Int)(hl:s.length≤1000)(d:Nat):∀(K m:Nat),m≤s.length→s.length-m=d→d+1≤K→∃r:Int,Xu.l0 K s (s.length:Int) (m:Int)=some r∧decide (r≥0)=(s.drop m).any bad:=by
 induction d with
 |zero=>
  intro K m h1 h2 h3;obtain⟨K,rfl⟩:∃q,K=q+1:=⟨K-1,by omega⟩;refine⟨-1,?_,?_⟩
  ·simp only[Xu.l0];rw[if_neg (by omega)]
  ·rw[List.drop_eq_nil_of_le (by omega)];rfl
 |succ d ih=>
  intro K m h1 h2 h3;obtain⟨K,rfl⟩:∃q,K=q+1:=⟨K-1,by omega⟩;have c:m<s.length:=by omega
  rw[List.drop_eq_getElem_cons c,List.any_cons];simp only[Xu.l0];rw[if_pos (by omega),if_pos (by omega),if_pos (by omega),Xdl s m c,one_f];simp only[Option.bind_some];by_cases g:bad s[m]=true
  ·rw[if_pos g];exact⟨m,rfl,by rw[g];simp⟩
  ·rw[if_neg g,up64 m (by omega)];obtain⟨r,e1,e2⟩:=ih K (m+1) (by omega) (by omega) (by omega);exact⟨r,e1,by rw[e2,Bool.eq_false_iff.2 g];rfl⟩
theorem cfunc_eq(s:List Int)(hl:s.length≤1000)(K:Nat)(hK:s.length+1≤K):Xao.f K s=some (s.any bad):=by obtain⟨r,e1,e2⟩:=ifunc_loop s hl s.length K 0 (by omega) (by omega) hK;unfold Xao.f Xu.f;rw[show(0:Int)=((0:Nat):Int)from rfl,e1];rw[List.drop_zero]at e2;simp only[Option.bind_some];rw[←e2];rfl
theorem index_loop(s:List Int)(hl:s.length≤1000)(d:Nat):∀(K m:Nat),m≤s.length→s.length-m=d→d+1≤K→∃r:Int,Xy.l0 K s 0 (s.length:Int) (m:Int)=some r∧decide (r≥0)=(s.drop m).any isz:=by
 induction d with
 |zero=>
  intro K m h1 h2 h3;obtain⟨K,rfl⟩:∃q,K=q+1:=⟨K-1,by omega⟩;refine⟨-1,?_,?_⟩
  ·simp only[Xy.l0];rw[if_neg (by omega)]
  ·rw[List.drop_eq_nil_of_le (by omega)];rfl
 |succ d ih=>
  intro K m h1 h2 h3;obtain⟨K,rfl⟩:∃q,K=q+1:=⟨K-1,by omega⟩;have c:m<s.length:=by omega
  rw[List.drop_eq_getElem_cons c,List.any_cons];simp only[Xy.l0];rw[if_pos (by omega),if_pos (by omega),if_pos (by omega),Xdl s m c];by_cases g:0=s[m]
  ·rw[if_pos g];exact⟨m,rfl,by unfold isz;rw[decide_eq_true g];simp⟩
  ·rw[if_neg g,up64 m (by omega)];obtain⟨r,e1,e2⟩:=ih K (m+1) (by omega) (by omega) (by omega);exact⟨r,e1,by unfold isz at e2⊢;rw[e2,decide_eq_false g];rfl⟩
theorem cont_eq(s:List Int)(hl:s.length≤1000)(K:Nat)(hK:s.length+1≤K):Xaq.f K s 0=some (s.any isz):=by obtain⟨r,e1,e2⟩:=index_loop s hl s.length K 0 (by omega) (by omega) hK;unfold Xaq.f Xy.f;rw[show Xy.l0 K s 0 (s.length:Int) 0=some r from e1];rw[List.drop_zero]at e2;simp only[Option.bind_some];rw[←e2]
def good(s:List Int):Prop:=∀x∈s,1≤x∧x≤1048576
theorem good_of(s:List Int)(h1:¬s.any bad=true)(h2:¬s.any isz=true):good s:=by intro x hx;have a1:¬bad x=true:=fun h=>h1 (List.any_eq_true.2 ⟨x,hx,h⟩);have a2:¬isz x=true:=fun h=>h2 (List.any_eq_true.2 ⟨x,hx,h⟩);unfold bad at a1;unfold isz at a2;simp only[decide_eq_true_eq]at a1 a2;omega
theorem P_pos:∀(s:List Int),good s→1≤P s
 |[],_=>by unfold P;omega
 |x::r,h=>by
  have h1:=h x (by simp);have h2:=P_pos r (fun y hy=>h y (by simp[hy]));unfold P;have:=Int.mul_le_mul h1.1 h2 (by omega) (by omega);omega
theorem good_drop{s:List Int}(h:good s)(m:Nat):good (s.drop m):=fun x hx=>h x (List.mem_of_mem_drop hx)
theorem mul_small{a x:Int}(h1:1≤a)(h2:a≤1048576)(h3:1≤x)(h4:x≤1048576):1≤a*x∧a*x≤1099511627776:=by have:=Int.mul_le_mul h1 h3 (by omega) (by omega);have:=Int.mul_le_mul h2 h4 (by omega) (by omega);omega
theorem count_loop(s:List Int)(hs:good s)(hl:s.length≤1000)(d:Nat):∀(K m:Nat)(acc:Int),m≤s.length→s.length-m=d→d+1≤K→1≤acc→acc≤1048576→
  X6.l0 K acc s (s.length:Int) (m:Int)=some (if acc*P (s.drop m)≤1048576 then(acc*P (s.drop m),true)else(0,false)):=by
 induction d with
 |zero=> intro K m acc h1 h2 h3 h4 h5;obtain⟨K,rfl⟩:∃q,K=q+1:=⟨K-1,by omega⟩;simp only[X6.l0];rw[if_neg (by omega),List.drop_eq_nil_of_le (by omega),show acc*P []=acc from by unfold P;omega,if_pos h5]
 |succ d ih=>
  intro K m acc h1 h2 h3 h4 h5;obtain⟨K,rfl⟩:∃q,K=q+1:=⟨K-1,by omega⟩;have c:m<s.length:=by omega
  have hx:=hs _ (List.getElem_mem c);have hm:=mul_small h4 h5 hx.1 hx.2;have hp:=P_pos (s.drop (m+1)) (good_drop hs _);simp only[X6.l0];rw[if_pos (by omega),if_pos (by omega),if_pos (by omega),Xdl s m c,w64 (n:=acc*s[m]) (by omega) (by omega),one_f,List.drop_eq_getElem_cons c,up64 m (by omega),show acc*P (s[m]::s.drop (m+1))=acc*s[m]*P (s.drop (m+1)) by rw[P,Int.mul_assoc]];simp only[Option.bind_some];by_cases g:acc*s[m]≤1048576
  ·rw[if_neg (by unfold bad;simp only[decide_eq_true_eq];omega),ih K (m+1) _ (by omega) (by omega) (by omega) hm.1 g]
  ·rw[if_pos (by unfold bad;simp only[decide_eq_true_eq];omega)];have:=Int.mul_le_mul (show acc*s[m]≤acc*s[m] by omega) hp (by omega) (by omega);rw[if_neg (by omega)]
theorem count_eq(s:List Int)(K:Nat)(hK:40≤K):X6.f K s=some (cnt s):=by
 unfold X6.f cnt;obtain⟨K,rfl⟩:∃q,K=q+1:=⟨K-1,by omega⟩;by_cases c:s.length>16
 ·rw[if_pos (by omega),if_pos c];simp only[X6.j0];rw[if_pos trivial]
 ·rw[if_neg (by omega),if_neg c,cfunc_eq s (by omega) _ (by omega)];simp only[Option.bind_some,X6.j0];unfold cnt2;by_cases h1:s.any bad=true
  ·rw[if_pos h1,if_pos h1]
  ·rw[if_neg h1,if_neg h1,cont_eq s (by omega) _ (by omega)];simp only[Option.bind_some];by_cases h2:s.any isz=true
   ·rw[if_pos h2,if_pos h2]
   ·rw[if_neg h2,if_neg h2];have:=count_loop s (good_of s h1 h2) (by omega) s.length K 0 1 (by omega) (by omega) (by omega) (by omega) (by omega);rw[List.drop_zero,Int.one_mul]at this;exact this
theorem take_snoc{l:List Int}{m:Nat}(h:m<l.length):l.take (m+1)=l.take m++[l[m]]:=by simp
theorem rcount_loop1(s:List Int)(hs:good s)(hl:s.length≤1000)(d:Nat):∀(K m:Nat)(acc:Int),m≤s.length→s.length-m=d→d+1≤K→1≤acc→acc≤1048576→
  Xo.l1 K s acc (m:Int)=some (if acc*P (s.drop m)≤1048576 then(acc*P (s.drop m),true)else(0,false)):=by
 induction d with
 |zero=> intro K m acc h1 h2 h3 h4 h5;obtain⟨K,rfl⟩:∃q,K=q+1:=⟨K-1,by omega⟩;simp only[Xo.l1];rw[if_neg (by omega),List.drop_eq_nil_of_le (by omega),show acc*P []=acc from by unfold P;omega,if_pos h5]
 |succ d ih=>
  intro K m acc h1 h2 h3 h4 h5;obtain⟨K,rfl⟩:∃q,K=q+1:=⟨K-1,by omega⟩;have c:m<s.length:=by omega
  have hx:=hs _ (List.getElem_mem c);have hm:=mul_small h4 h5 hx.1 hx.2;have hp:=P_pos (s.drop (m+1)) (good_drop hs _);simp only[Xo.l1];rw[if_pos (by omega),if_pos (by omega),Xdl s m c,w64 (n:=acc*s[m]) (by omega) (by omega),List.drop_eq_getElem_cons c,up64 m (by omega),show acc*P (s[m]::s.drop (m+1))=acc*s[m]*P (s.drop (m+1)) by rw[P,Int.mul_assoc]];by_cases g:acc*s[m]≤1048576
  ·rw[if_neg (by omega),ih K (m+1) _ (by omega) (by omega) (by omega) hm.1 g]
  ·rw[if_pos (by omega)];have:=Int.mul_le_mul (show acc*s[m]≤acc*s[m] by omega) hp (by omega) (by omega);rw[if_neg (by omega)]
theorem rcount_loop0(s:List Int)(hl:s.length≤16)(d:Nat):∀(K m:Nat)(n:Int),m≤s.length→s.length-m=d→2*d+30≤K→(s.take m).any bad=false→n=(if(s.take m).any isz=true then 0 else 1)→
  Xo.l0 K s n (m:Int)=some (cnt2 s):=by
 induction d with
 |zero=>
  intro K m n h1 h2 h3 h4 h5;obtain⟨K,rfl⟩:∃q,K=q+1:=⟨K-1,by omega⟩;rw[List.take_of_length_le (by omega)]at h4 h5;simp only[Xo.l0];unfold cnt2;rw[if_neg (by omega),if_neg (show¬s.any bad=true by simp[h4])];by_cases z:s.any isz=true
  ·rw[if_pos z]at h5;rw[if_pos h5,if_pos z]
  ·rw[if_neg z]at h5;rw[if_neg (by omega),if_neg z,h5];have:=rcount_loop1 s (good_of s (by simp[h4]) z) (by omega) s.length K 0 1 (by omega) (by omega) (by omega) (by omega) (by omega);rw[List.drop_zero,Int.one_mul]at this;exact this
 |succ d ih=>
  intro K m n h1 h2 h3 h4 h5;obtain⟨K,rfl⟩:∃q,K=q+2:=⟨K-2,by omega⟩;have c:m<s.length:=by omega
  simp only[Xo.l0];rw[if_pos (by omega),if_pos (by omega),Xdl s m c];by_cases g:bad s[m]=true
  ·have hb:s.any bad=true:=List.any_eq_true.2 ⟨_,List.getElem_mem c,g⟩;have e:cnt2 s=(0,false):=by unfold cnt2;rw[if_pos hb]
   unfold bad at g;simp only[decide_eq_true_eq]at g;have hj:∀x,Xo.j1 (K+1) s n x true=some (cnt2 s):=by intro x;simp only[Xo.j1];rw[if_pos trivial,e]
   by_cases g2:s[m]<0
   ·rw[if_pos g2];exact hj _
   ·rw[if_neg g2,decide_eq_true (by omega)];exact hj _
  ·have hg:=g;unfold bad at g;simp only[decide_eq_true_eq]at g;rw[if_neg (by omega),decide_eq_false (by omega)];simp only[Xo.j1];rw[if_neg (by simp),if_pos (by omega),if_pos (by omega),Xdl s m c,up64 m (by omega)];have hb:(s.take (m+1)).any bad=false:=by rw[take_snoc c,List.any_append,h4];simp[hg]
   by_cases z:s[m]=0
   ·rw[if_pos z];refine ih K (m+1) 0 (by omega) (by omega) (by omega) hb ?_;rw[take_snoc c,List.any_append,if_pos (by simp[isz,z])]
   ·rw[if_neg z];refine ih K (m+1) n (by omega) (by omega) (by omega) hb ?_;rw[take_snoc c,List.any_append,h5];have:[s[m]].any isz=false:=by simp[isz];omega
    rw[this,Bool.or_false]
theorem rcount_eq(s:List Int)(K:Nat)(hK:70≤K):Xo.f K s=some (cnt s):=by
 unfold Xo.f cnt;by_cases c:s.length>16
 ·rw[if_pos (by omega),if_pos c]
 ·rw[if_neg (by omega),if_neg c];exact rcount_loop0 s (by omega) s.length K 0 1 (by omega) (by omega) (by omega) (by simp) (by simp)
end Sh
theorem cnt_ev(s:List Int):Ev (fun k=>X6.f k s) (Sh.cnt s):=⟨40,fun k hk=>Sh.count_eq s k hk⟩
theorem rcnt_ev(s:List Int):Ev (fun k=>Xo.f k s) (Sh.cnt s):=⟨70,fun k hk=>Sh.rcount_eq s k hk⟩
def In64(v:Int):Prop:= -9223372036854775808≤v∧v≤9223372036854775807
theorem andNot1(v:Int)(h:In64 v):((Go.bits .andNot .i64 v 1)==0)=(v==0||v==1):=by
  obtain⟨h1,h2⟩:=h;have e:Go.bits .andNot .i64 v 1=IntKind.i64.wrap (((v%18446744073709551616).toNat/2*2:Nat):Int):=by
    show IntKind.i64.wrap ((BitVec.ofInt 64 v&&& ~~~BitVec.ofInt 64 ((1:Nat):Int)).toNat:Int)=_;rw[BitVec.toNat_and,BitVec.toNat_not,ofInt_u64 1 (by omega),BitVec.toNat_ofInt];have e1:2^64-1-1=18446744073709551614:=by decide
    rw[e1,nat_hi64_1,Nat.mod_eq_of_lt (by omega)];rfl
  rw[e];have e2:IntKind.i64.wrap (((v%18446744073709551616).toNat/2*2:Nat):Int)=wrap64 (((v%18446744073709551616).toNat/2*2:Nat):Int):=Xau _;rw[e2];by_cases g:v=0∨v=1
  · have z:wrap64 (((v%18446744073709551616).toNat/2*2:Nat):Int)=0:=by unfold wrap64;rcases g with rfl|rfl<;>omega
    rw[z];rcases g with rfl|rfl<;>rfl
  · have z:wrap64 (((v%18446744073709551616).toNat/2*2:Nat):Int)≠0:=by unfold wrap64;omega
    rw[beq_eq_false_iff_ne.mpr z,beq_eq_false_iff_ne.mpr (fun h=>g (.inl h)),beq_eq_false_iff_ne.mpr (fun h=>g (.inr h))];rfl
def okI(a v:Int):Bool:=if a=1 then(v==0||v==1)else if a=2 then true else if a=3 then decide (0≤v∧v≤1114111∧¬(55296≤v∧v≤57343))else false
theorem valid_val(a:Int):Ev (fun k=>Xaf.f k a) (decide (0≤a∧a≤1114111∧¬(55296≤a∧a≤57343))):=by
 by_cases h:0≤a
 ·simp only[Xaf.f,if_pos h];refine Ev.succ ?_;by_cases h2:a<55296
  ·rw[decide_eq_true (show 0≤a∧a≤1114111∧¬(55296≤a∧a≤57343) by omega)];simp only[Xaf.j0,decide_eq_true h2,if_true];exact Ev.const _
  ·simp only[Xaf.j0,decide_eq_false h2,Bool.false_eq_true,if_false];by_cases h3:57343<a
   ·by_cases h4:a≤1114111
    ·rw[decide_eq_true (show 0≤a∧a≤1114111∧¬(55296≤a∧a≤57343) by omega)];simp only[if_pos h3,if_pos h4];exact Ev.const _
    ·rw[decide_eq_false (show¬(0≤a∧a≤1114111∧¬(55296≤a∧a≤57343)) by omega)];simp only[if_pos h3,if_neg h4];exact Ev.const _
   ·rw[decide_eq_false (show¬(0≤a∧a≤1114111∧¬(55296≤a∧a≤57343)) by omega)];simp only[if_neg h3];exact Ev.const _
 ·simp only[Xaf.f,if_neg h];refine Ev.succ ?_;rw[decide_eq_false (show¬(0≤a∧a≤1114111∧¬(55296≤a∧a≤57343)) by omega)];simp only[Xaf.j0,Bool.false_eq_true,if_false,if_neg (show¬57343<a by omega)];exact Ev.const _
theorem fits_val(a v:Int)(hv:In64 v):Ev (fun k=>Xbw.f k a v) (okI a v):=by
  unfold okI;by_cases h1:a=1
  · simp only[Xbw.f,if_pos h1,andNot1 v hv];exact Ev.const _
  · by_cases h2:a=2
    · simp only[Xbw.f,if_neg h1,if_pos h2];exact Ev.const _
    · by_cases h3:a=3
      · by_cases h4:v=wrap64 (wrap32 v)
        · have e:wrap32 v=v:=by
            have:wrap64 (wrap32 v)=wrap32 v:=by unfold wrap64 wrap32;omega
            omega
          simp only[Xbw.f,if_neg h1,if_neg h2,if_pos h3,if_pos h4];simp only[e];exact Ev.bind (valid_val v) (Ev.const _)
        · simp only[Xbw.f,if_neg h1,if_neg h2,if_pos h3,if_neg h4];rw[decide_eq_false (show¬(0≤v∧v≤1114111∧¬(55296≤v∧v≤57343)) by intro g;apply h4;unfold wrap64 wrap32;omega)]
          exact Ev.const _
      · simp only[Xbw.f,if_neg h1,if_neg h2,if_neg h3];exact Ev.const _
theorem wrongs_val(l:List Int)(a:Int)(hl:l.length≤9223372036854775807)(hr:∀v∈l,In64 v):∀d i,i≤l.length→l.length-i=d→Ev (fun k=>X7.l0 k a l (l.length:Int) (i:Int)) (!(l.drop i).all (okI a)):=by
 intro d
 induction d with
 |zero=> intro i h1 h2;rw[List.drop_eq_nil_of_le (by omega)];refine Ev.succ ?_;simp only[X7.l0,if_neg (show¬((i:Int)<(l.length:Int)) by omega)];exact Ev.const _
 |succ d ih=>
  intro i h1 h2;have hi:i<l.length:=by omega
  have ht:=fits_val a l[i] (hr _ (List.getElem_mem _));have hv:=ih (i+1) (by omega) (by omega);rw[List.drop_eq_getElem_cons hi,List.all_cons];refine Ev.succ ?_;simp only[X7.l0,if_pos (show((i:Int)<(l.length:Int)) by omega),if_pos (show(0:Int)≤(i:Int) by omega),Xb3.f,ix hi hl,Xdl l i hi];refine Ev.bind (Ev.bind ht (Ev.const _)) ?_;cases okI a l[i]with
  |true=>exact hv
  |false=>exact Ev.const _
noncomputable def dr (y:S35):Bool:=open Classical in if h:∃v,Ev (fun k=>Xaa.f k y.f0 y.f1) v then h.choose else false
theorem Xe8(y:S35)(h:OkD y):Ev (fun k=>Xaa.f k y.f0 y.f1) (dr y):=by have e:=decright_ev y h;unfold dr;rw[dif_pos e];exact e.choose_spec
theorem norm_same:∀(k:Nat)(x e:Int),Xai.l0 k x e=X8.l0 k x e:=by
 intro k
 induction k with
 |zero=>intro x e;rfl
 |succ k ih=>intro x e;simp only[Xai.l0,X8.l0,ih]
theorem dright_same(k:Nat)(x e:Int):Xl.f k x e=Xaa.f k x e:=by simp only[Xl.f,Xaa.f,Xai.f,X8.f,norm_same]
theorem Xdw(b:List S35)(m:Nat)(h:m<b.length):Xw b (m:Int)=b[m]:=by unfold Xw;rw[List.getD_eq_getElem?_getD,Int.toNat_natCast,List.getElem?_eq_getElem h];rfl
theorem decs_val(l:List S35)(ok:∀y∈l,OkD y)(hl:l.length≤9223372036854775807):∀d i,i≤l.length→l.length-i=d→Ev (fun k=>Xa5.l0 k l (l.length:Int) (i:Int)) (!(l.drop i).all dr):=by
 intro d
 induction d with
 |zero=> intro i h1 h2;rw[List.drop_eq_nil_of_le (by omega)];refine Ev.succ ?_;simp only[Xa5.l0,if_neg (show¬((i:Int)<(l.length:Int)) by omega)];exact Ev.const _
 |succ d ih=>
  intro i h1 h2;have hi:i<l.length:=by omega
  have ht:=Xe8 l[i] (ok _ (List.getElem_mem _));have hv:=ih (i+1) (by omega) (by omega);rw[List.drop_eq_getElem_cons hi,List.all_cons];refine Ev.succ ?_;simp only[Xa5.l0,if_pos (show((i:Int)<(l.length:Int)) by omega),if_pos (show(0:Int)≤(i:Int) by omega),ix hi hl,Xdw l i hi];refine Ev.bind ht ?_;cases dr l[i]with
  |true=>exact hv
  |false=>exact Ev.const _
noncomputable def gd (x5 x6 a:Int) (c:List Int) (e:List S35):Bool:=if(c.length:Int)=x5 then(if(e.length:Int)=x6 then(c.all (okI a)&&e.all dr)else false)else false
theorem Xd3(x3 x5 x6 a a':Int)(b c:List Int)(e:List S35)(ok:∀y∈e,OkD y)(hr:∀v∈c,In64 v)(hc:c.length≤9223372036854775807)(he:e.length≤9223372036854775807):
  Ev (fun k=>Xx.j1 k x3 x5 x6 a a' b c e) (if gd x5 x6 a c e=true then x3 else -1):=by
 have ht:=wrongs_val c a hc hr c.length 0 (by omega) (by omega);have hs:=decs_val e ok he e.length 0 (by omega) (by omega);rw[List.drop_zero]at ht hs;unfold gd;refine Ev.succ ?_;by_cases g1:(c.length:Int)=x5
 ·by_cases g2:(e.length:Int)=x6
  ·simp only[Xx.j1,if_pos g1,if_pos g2,X7.f,Xa5.f];refine Ev.bind ht ?_;cases c.all (okI a)with
   |false=>exact Ev.const _
   |true=>
    refine Ev.bind hs ?_;cases e.all dr with
    |false=>exact Ev.const _
    |true=>exact Ev.const _
  ·simp only[Xx.j1,if_pos g1,if_neg g2];exact Ev.const _
 ·simp only[Xx.j1,if_neg g1];exact Ev.const _
noncomputable def gdK (a x3:Int) (c:List Int) (e:List S35):Bool:=if a=1∨a=2∨a=3 then gd x3 0 a c e else if a=4 then gd 0 x3 a c e else if a=5 then gd 0 0 a c e else false
def Ok3(n:S32):Prop:=Ok n∧(∀v∈n.f2,In64 v)∧n.f2.length≤9223372036854775807∧n.f3.length≤9223372036854775807
theorem items_val(n:S32)(ok:Ok3 n):Ev (fun k=>Xx.f k n.f0 n.f1 n.f2 n.f3) (if(Sh.cnt n.f1).2=true then(if gdK n.f0 (Sh.cnt n.f1).1 n.f2 n.f3=true then(Sh.cnt n.f1).1 else -1)else -1):=by
 have hc:=cnt_ev n.f1
 revert hc
 generalize Sh.cnt n.f1=x;intro hc;obtain⟨ok1,ok2,ok3,ok4⟩:=ok;simp only[Xx.f];refine Ev.bind hc ?_;cases x.2 with
 |false=>exact Ev.const _
 |true=>
  simp only[if_true];unfold gdK;by_cases g1:n.f0=1
  ·simp only[if_pos g1,if_pos (show n.f0=1∨n.f0=2∨n.f0=3 from .inl g1),beq_iff_eq.mpr g1];exact Ev.succ (by simp only[Xx.j0,if_true];exact Xd3 _ _ _ _ _ _ _ _ ok1 ok2 (by omega) (by omega))
  ·by_cases g2:n.f0=2
   ·simp only[if_neg g1,if_pos g2,if_pos (show n.f0=1∨n.f0=2∨n.f0=3 from .inr (.inl g2)),beq_iff_eq.mpr g2];exact Ev.succ (by simp only[Xx.j0,if_true];exact Xd3 _ _ _ _ _ _ _ _ ok1 ok2 (by omega) (by omega))
   ·by_cases g3:n.f0=3
    ·simp only[if_neg g1,if_neg g2,if_pos (show n.f0=1∨n.f0=2∨n.f0=3 from .inr (.inr g3)),beq_iff_eq.mpr g3];exact Ev.succ (by simp only[Xx.j0,if_true];exact Xd3 _ _ _ _ _ _ _ _ ok1 ok2 (by omega) (by omega))
    ·simp only[if_neg g1,if_neg g2,if_neg (show¬(n.f0=1∨n.f0=2∨n.f0=3) by omega),beq_eq_false_iff_ne.mpr g3];refine Ev.succ ?_;simp only[Xx.j0,Bool.false_eq_true,if_false];by_cases g4:n.f0=4
     ·simp only[if_pos g4];exact Xd3 _ _ _ _ _ _ _ _ ok1 ok2 (by omega) (by omega)
     ·by_cases g5:n.f0=5
      ·simp only[if_neg g4,if_pos g5];exact Xd3 _ _ _ _ _ _ _ _ ok1 ok2 (by omega) (by omega)
      ·simp only[if_neg g4,if_neg g5];exact Ev.const _
theorem itm_val3(n:S32)(ok:Ok3 n):itm n=if(Sh.cnt n.f1).2=true then(if gdK n.f0 (Sh.cnt n.f1).1 n.f2 n.f3=true then(Sh.cnt n.f1).1 else -1)else -1:=
 Ev.uniq (itm_said n ok.1).1 (items_val n ok)
theorem cnt_pos0(s:List Int):0≤(Sh.cnt s).1:=by obtain⟨c,b,h,h0,_⟩:=count_ev s;have:=Ev.uniq h (cnt_ev s);rw[←this];exact h0
theorem rdecs_val(x4 a:Int)(b c:List Int)(l:List S35)(ok:∀y∈l,OkD y)(hl:l.length≤9223372036854775807):∀d i,i≤l.length→l.length-i=d→Ev (fun k=>Xj.l1 k x4 (l.length:Int) (i:Int) a b c l) (if(l.drop i).all dr=true then(x4,true)else(0,false)):=by
 intro d
 induction d with
 |zero=> intro i h1 h2;rw[List.drop_eq_nil_of_le (by omega)];refine Ev.succ ?_;simp only[Xj.l1,if_neg (show¬((i:Int)<(l.length:Int)) by omega)];exact Ev.const _
 |succ d ih=>
  intro i h1 h2;have hi:i<l.length:=by omega
  have ht:=Xe8 l[i] (ok _ (List.getElem_mem _));have hv:=ih (i+1) (by omega) (by omega);rw[List.drop_eq_getElem_cons hi,List.all_cons];refine Ev.succ ?_;simp only[Xj.l1,if_pos (show((i:Int)<(l.length:Int)) by omega),if_pos (show(0:Int)≤(i:Int) by omega),ix hi hl,Xdw l i hi,dright_same];refine Ev.bind ht ?_;cases dr l[i]with
  |true=>exact hv
  |false=>exact Ev.const _
theorem rints_val(x4 x7 a:Int)(b c:List Int)(e:List S35)(R:Int×Bool)(ha:a=1∨a=2∨a=3)(hl:c.length≤9223372036854775807)(hR:Ev (fun k=>Xj.l1 k x4 x7 0 a b c e) R):
  ∀d i,i≤c.length→c.length-i=d→Ev (fun k=>Xj.l0 k x4 (c.length:Int) x7 (i:Int) a b c e) (if(c.drop i).all (okI a)=true then R else(0,false)):=by
 intro d
 induction d with
 |zero=> intro i h1 h2;rw[List.drop_eq_nil_of_le (by omega)];refine Ev.succ ?_;simp only[Xj.l0,if_neg (show¬((i:Int)<(c.length:Int)) by omega)];exact hR
 |succ d ih=>
  intro i h1 h2;have hi:i<c.length:=by omega
  have hv:=ih (i+1) (by omega) (by omega);rw[List.drop_eq_getElem_cons hi,List.all_cons];refine Ev.succ ?_;simp only[Xj.l0,if_pos (show((i:Int)<(c.length:Int)) by omega),if_pos (show(0:Int)≤(i:Int) by omega),ix hi hl,Xdl c i hi];generalize c[i]=v;have go:okI a v=true→Ev (fun k=>Xj.l0 k x4 (c.length:Int) x7 ((i+1:Nat):Int) a b c e) (if(okI a v&&(c.drop (i+1)).all (okI a))=true then R else(0,false)):=by intro h;rw[h];exact hv
  have no:okI a v=false→Ev (fun _:Nat=>some ((0,false):Int×Bool)) (if(okI a v&&(c.drop (i+1)).all (okI a))=true then R else(0,false)):=by intro h;rw[h];exact Ev.const _
  clear hv ih hR;rcases ha with rfl|rfl|rfl
  ·have n3:((1:Int)=3)=False:=by decide
   by_cases h0:v=0
   ·simp only[if_pos h0,n3,if_false,if_true];exact go (by rw[h0];rfl)
   ·by_cases h1:v=1
    ·simp only[if_neg h0,if_pos h1,n3,if_false,if_true];exact go (by rw[h1];rfl)
    ·simp only[if_neg h0,if_neg h1,if_true];exact no (by simp[okI,h0,h1])
  ·have n1:((2:Int)=1)=False:=by decide
   have n3:((2:Int)=3)=False:=by decide
   simp only[n1,n3,if_false];exact go rfl
  ·have n1:((3:Int)=1)=False:=by decide
   have ho:okI 3 v=decide (0≤v∧v≤1114111∧¬(55296≤v∧v≤57343)):=rfl;simp only[n1,if_false,if_true];by_cases h1:v<0
   ·simp only[if_pos h1];exact no (by rw[ho];exact decide_eq_false (by omega))
   ·by_cases h2:v>1114111
    ·simp only[if_neg h1,if_pos h2];exact no (by rw[ho];exact decide_eq_false (by omega))
    ·by_cases h3:v≥55296
     ·by_cases h4:v≤57343
      ·simp only[if_neg h1,if_neg h2,if_pos h3,if_pos h4];exact no (by rw[ho];exact decide_eq_false (by omega))
      ·simp only[if_neg h1,if_neg h2,if_pos h3,if_neg h4];exact go (by rw[ho];exact decide_eq_true (by omega))
     ·simp only[if_neg h1,if_neg h2,if_neg h3];exact go (by rw[ho];exact decide_eq_true (by omega))
theorem all_nil_len{α:Type}{l:List α}{p:α→Bool}(h:(l.length:Int)=0):l.all p=true:=by rw[List.eq_nil_of_length_eq_zero (show l.length=0 by omega)];rfl
theorem rj2_val(x4 x6 x7 a:Int)(b c:List Int)(e:List S35)(ok:∀y∈e,OkD y)(hc:c.length≤9223372036854775807)(he:e.length≤9223372036854775807)(ha:a=1∨a=2∨a=3∨x6=0):
  Ev (fun k=>Xj.j2 k x4 x6 x7 a b c e) (if gd x6 x7 a c e=true then(x4,true)else(0,false)):=by
 have hno:Ev (fun k=>Xj.j3 k x4 x6 x7 true a b c e) (0,false):=Ev.succ (by simp only[Xj.j3,if_true];exact Ev.const _);unfold gd;refine Ev.succ ?_;simp only[Xj.j2];by_cases g1:(c.length:Int)=x6
 ·by_cases g2:(e.length:Int)=x7
  ·have hs:=rdecs_val x4 a b c e ok he e.length 0 (by omega) (by omega);rw[List.drop_zero,g2]at hs;simp only[if_pos g1,if_pos g2];have hb:((e.length:Int) != x7)=false:=by rw[g2];exact bne_self_eq_false _
   rw[hb];refine Ev.succ ?_;simp only[Xj.j3,Bool.false_eq_true,if_false];have fin2:∀t:Bool,(if t=true then(if e.all dr=true then(x4,true)else(0,false))else((0,false):Int×Bool))=if(t&&e.all dr)=true then(x4,true)else(0,false):=by intro t;cases t<;>rfl
   rw[←fin2];rcases ha with h|h|h|h
   ·have:=rints_val x4 x7 a b c e _ (.inl h) hc hs c.length 0 (by omega) (by omega);rw[List.drop_zero,g1]at this;exact this
   ·have:=rints_val x4 x7 a b c e _ (.inr (.inl h)) hc hs c.length 0 (by omega) (by omega);rw[List.drop_zero,g1]at this;exact this
   ·have:=rints_val x4 x7 a b c e _ (.inr (.inr h)) hc hs c.length 0 (by omega) (by omega);rw[List.drop_zero,g1]at this;exact this
   ·rw[all_nil_len (show(c.length:Int)=0 by omega)];refine Ev.succ ?_;simp only[Xj.l0,if_neg (show¬((0:Int)<x6) by omega),if_true];exact hs
  ·simp only[if_pos g1,if_neg g2];have hb:((e.length:Int) != x7)=true:=bne_iff_ne.mpr g2;rw[hb];exact hno
 ·simp only[if_neg g1];exact hno
theorem right_val(n:S32)(ok:Ok3 n):Ev (fun k=>Xj.f k n.f0 n.f1 n.f2 n.f3) (if itm n<0 then(0,false)else(itm n,true)):=by
 rw[itm_val3 n ok];have hc:=rcnt_ev n.f1;have h0:=cnt_pos0 n.f1
 revert hc h0
 generalize Sh.cnt n.f1=x;intro hc h0;obtain⟨ok1,ok2,ok3,ok4⟩:=ok;have hj:Ev (fun k=>Xj.j0 k x.1 true n.f0 n.f1 n.f2 n.f3) (0,false):=Ev.succ (by simp only[Xj.j0,if_true];exact Ev.const _);simp only[Xj.f];refine Ev.bind hc ?_;cases x.2 with
 |false=>exact hj
 |true=>
  simp only[if_true];have hno:gdK n.f0 x.1 n.f2 n.f3=false→(if(if gdK n.f0 x.1 n.f2 n.f3=true then x.1 else -1)<0 then((0,false):Int×Bool)else((if gdK n.f0 x.1 n.f2 n.f3=true then x.1 else -1),true))=(0,false):=by intro h;rw[h];rfl
  have hyes:∀t:Bool,gdK n.f0 x.1 n.f2 n.f3=t→(if(if gdK n.f0 x.1 n.f2 n.f3=true then x.1 else -1)<0 then((0,false):Int×Bool)else((if gdK n.f0 x.1 n.f2 n.f3=true then x.1 else -1),true))=if t=true then(x.1,true)else(0,false):=by
   intro t h;rw[h];cases t
   ·rfl
   ·simp only[if_true,if_neg (show¬x.1<0 by omega)]
  by_cases g1:n.f0<1
  ·simp only[if_pos g1];rw[hno (by unfold gdK;rw[if_neg (by omega),if_neg (by omega),if_neg (by omega)])];exact hj
  ·by_cases g2:n.f0>5
   ·simp only[if_neg g1,decide_eq_true g2];rw[hno (by unfold gdK;rw[if_neg (by omega),if_neg (by omega),if_neg (by omega)])];exact hj
   ·simp only[if_neg g1,decide_eq_false g2];refine Ev.succ ?_;simp only[Xj.j0,Bool.false_eq_true,if_false];by_cases g4:n.f0≥4
    ·simp only[if_pos g4];refine Ev.succ ?_;simp only[Xj.j1];by_cases g5:n.f0=4
     ·rw[hyes _ (by unfold gdK;rw[if_neg (by omega),if_pos g5])];simp only[if_pos g5];exact rj2_val _ _ _ _ _ _ _ ok1 (by omega) (by omega) (.inr (.inr (.inr rfl)))
     ·rw[hyes _ (by unfold gdK;rw[if_neg (by omega),if_neg g5,if_pos (by omega)])];simp only[if_neg g5];exact rj2_val _ _ _ _ _ _ _ ok1 (by omega) (by omega) (.inr (.inr (.inr rfl)))
    ·simp only[if_neg g4];refine Ev.succ ?_;simp only[Xj.j1,if_neg (show¬n.f0=4 by omega)];rw[hyes _ (by unfold gdK;rw[if_pos (by omega)])];exact rj2_val _ _ _ _ _ _ _ ok1 (by omega) (by omega) (by omega)
theorem Xex(a b:Int):a≤mx a b∧b≤mx a b∧(mx a b=a∨mx a b=b):=by unfold mx;split<;>omega
theorem mx_eq{a b c:Int}(h1:a≤c)(h2:b≤c)(h3:c=a∨c=b):mx a b=c:=by have:=Xex a b;omega
noncomputable def fin (all deep:Int) (st:List Int) (i:Int) (r:List S32):Int×Int×Int:=
 match st with
 |[]=>(i,all,deep)
 |x::s=>Xc1 all deep (x::s) i r
theorem walkS_fin{all deep:Int}{st:List Int}{i:Int}{n:S32}{r:List S32}(h:¬(itm n<0∨wrap64 (all+itm n)>1048576∨16≤st.length)):
  Xc1 all deep st i (n::r)=fin (wrap64 (all+itm n)) (mx deep (wrap64 ((st.length:Int)+1))) (clr (Xd5 st n)) (i+1) r:=by
 simp only[Xc1,if_neg h];cases e:clr (Xd5 st n)with
 |nil=>simp only[fin,if_true]
 |cons x s=>simp only[fin,if_neg (show¬(x::s=[])from List.cons_ne_nil x s)]
theorem fin_cons{all deep:Int}{st:List Int}{i:Int}{r:List S32}(h:st≠[]):fin all deep st i r=Xc1 all deep st i r:=by
 cases st with
 |nil=>exact absurd rfl h
 |cons x s=>rfl
noncomputable def lpS (F:List S32→Int×Int×Int):Nat→List S32→Int→Int→Int→Int×Int×Int
 |0,_,u,m,d=>(u,m,d+1)
 |c+1,r,u,m,d=>if(F r).1=0∨m+(F r).2.1>1048576 then(0,0,0)else lpS F c (r.drop (F r).1.toNat) (u+(F r).1) (m+(F r).2.1) (mx d (F r).2.2)
noncomputable def Xav:Nat→List S32→Int×Int×Int
 |0,_=>(0,0,0)
 |_+1,[]=>(0,0,0)
 |d+1,n::r=>if itm n<0 then(0,0,0)else if n.f0=5 then lpS (fun l=>Xav d l) (itm n).toNat r 1 (itm n) 0 else(1,itm n,1)
def Ans(d:Nat)(l:List S32)(x:Int×Int×Int):Prop:=x=(0,0,0)∨(1≤x.1∧x.1≤(l.length:Int)∧0≤x.2.1∧x.2.1≤1048576∧1≤x.2.2∧x.2.2≤(d:Int))
theorem lp_ans(F:List S32→Int×Int×Int)(d:Nat)(hF:∀l,Ans d l (F l)):∀(c:Nat)(r:List S32)(u m dep:Int),1≤u→0≤m→m≤1048576→0≤dep→dep≤(d:Int)→
  lpS F c r u m dep=(0,0,0)∨(u≤(lpS F c r u m dep).1∧(lpS F c r u m dep).1≤u+(r.length:Int)∧m≤(lpS F c r u m dep).2.1∧(lpS F c r u m dep).2.1≤1048576∧dep+1≤(lpS F c r u m dep).2.2∧(lpS F c r u m dep).2.2≤(d:Int)+1):=by
 intro c
 induction c with
 |zero=>intro r u m dep h1 h2 h3 h4 h5;right;simp only[lpS];omega
 |succ c ih=>
  intro r u m dep h1 h2 h3 h4 h5;by_cases g:(F r).1=0∨m+(F r).2.1>1048576
  ·left;simp only[lpS,if_pos g]
  ·simp only[lpS,if_neg g];rcases hF r with e|e
   ·exact absurd (.inl (by rw[e])) g
   ·have hm:=Xex dep (F r).2.2;have hd:(r.drop (F r).1.toNat).length=r.length-(F r).1.toNat:=List.length_drop;have:=ih (r.drop (F r).1.toNat) (u+(F r).1) (m+(F r).2.1) (mx dep (F r).2.2) (by omega) (by omega) (by omega) (by omega) (by omega);rcases this with h|h
    ·exact .inl h
    ·right;rw[hd]at h
     revert h
     generalize lpS F c (r.drop (F r).1.toNat) (u+(F r).1) (m+(F r).2.1) (mx dep (F r).2.2)=z;intro h;clear ih hF;omega
theorem Xc9:∀(d:Nat)(l:List S32),Ans d l (Xav d l):=by
 intro d
 induction d with
 |zero=>intro l;left;simp only[Xav]
 |succ d ih=>
  intro l;cases l with
  |nil=>left;simp only[Xav]
  |cons n r=>
   by_cases g:itm n<0
   ·left;simp only[Xav,if_pos g]
   ·have hb:=itm_le n;by_cases g5:n.f0=5
    ·have:=lp_ans (fun l=>Xav d l) d ih (itm n).toNat r 1 (itm n) 0 (by omega) (by omega) (by omega) (by omega) (by omega);simp only[Xav,if_neg g,if_pos g5];rcases this with h|h
     ·exact .inl h
     ·right
      revert h
      generalize lpS (fun l=>Xav d l) (itm n).toNat r 1 (itm n) 0=z;intro h;clear ih;simp only[List.length_cons];omega
    ·right;simp only[Xav,if_neg g,if_neg g5,List.length_cons];omega
theorem floop_ev(n:S32)(r:List S32)(d:Nat)(hd:d≤15)(hr:r.length≤1099511627776)(cnt:Int)(hc:cnt≤1048576)(hF:∀m,Ev (fun k=>Xr.f k (r.drop m) (d:Int)) (Xav d (r.drop m))):
  ∀(c m:Nat)(it dep i:Int),m≤r.length→0≤it→it≤1048576→0≤dep→dep≤(d:Int)→0≤i→cnt-i=(c:Int)→
  Ev (fun k=>Xr.l0 k (n::r) ((d+1:Nat):Int) cnt ((m+1:Nat):Int) it dep i) (lpS (fun l=>Xav d l) c (r.drop m) ((m+1:Nat):Int) it dep):=by
 intro c
 induction c with
 |zero=> intro m it dep i h1 h2 h3 h4 h5 h6 h7;refine Ev.succ ?_;simp only[Xr.l0,if_neg (show¬i<cnt by omega),lpS];rw[w64 (n:=dep+1) (by omega) (by omega)];exact Ev.const _
 |succ c ih=>
  intro m it dep i h1 h2 h3 h4 h5 h6 h7;have hl:((n::r).length:Int)=(r.length:Int)+1:=by simp only[List.length_cons];omega
  have hw:wrap64 (((d+1:Nat):Int)-1)=(d:Int):=by rw[w64 (by omega) (by omega)];omega
  have hdr:(n::r).drop (((m+1:Nat):Int)).toNat=r.drop m:=by rw[Int.toNat_natCast,List.drop_succ_cons]
  have han:=Xc9 d (r.drop m);refine Ev.succ ?_;simp only[Xr.l0,if_pos (show i<cnt by omega),if_pos (show(0:Int)≤((m+1:Nat):Int) by omega),if_pos (show((m+1:Nat):Int)≤((n::r).length:Int) by omega),hdr,hw];refine Ev.bind (hF m) ?_;simp only[lpS];generalize Xav d (r.drop m)=x at han;have hlen:(r.drop m).length=r.length-m:=List.length_drop;rcases han with e|e
  ·simp only[e,if_true,true_or];exact Ev.const _
  ·rw[hlen]at e;have hw2:wrap64 (it+x.2.1)=it+x.2.1:=w64 (by omega) (by omega);simp only[if_neg (show¬x.1=0 by omega),hw2];by_cases g:it+x.2.1>1048576
   ·simp only[if_pos g,if_pos (show x.1=0∨it+x.2.1>1048576 from .inr g)];exact Ev.const _
   ·have hm:=Xex dep x.2.2;simp only[if_neg g,if_neg (show¬(x.1=0∨it+x.2.1>1048576) by omega)];have hw3:wrap64 (((m+1:Nat):Int)+x.1)=((m+x.1.toNat+1:Nat):Int):=by rw[w64 (by omega) (by omega)];omega
    have hw4:wrap64 (i+1)=i+1:=w64 (by omega) (by omega);rw[hw3,hw4,List.drop_drop,show((m+1:Nat):Int)+x.1=((m+x.1.toNat+1:Nat):Int) by omega];exact ih (m+x.1.toNat) (it+x.2.1) (mx dep x.2.2) (i+1) (by omega) (by omega) (by omega) (by omega) (by omega) (by omega) (by omega)
theorem first_ev:∀(d:Nat),d≤16→∀(l:List S32),(∀n∈l,Ok3 n)→l.length≤1099511627776→Ev (fun k=>Xr.f k l (d:Int)) (Xav d l):=by
 intro d
 induction d with
 |zero=>
  intro hd l ok hl;have hj:Ev (fun k=>Xr.j0 k l ((0:Nat):Int) true) (0,0,0):=Ev.succ (by simp only[Xr.j0,if_true];exact Ev.const _);refine Ev.succ ?_;simp only[Xav,Xr.f];by_cases h:(l.length:Int)=0
  ·simp only[if_pos h];exact hj
  ·simp only[if_neg h,decide_eq_true (show((0:Nat):Int)<1 by omega)];exact hj
 |succ d ih=>
  intro hd l ok hl;cases l with
  |nil=> refine Ev.succ ?_;simp only[Xav,Xr.f,List.length_nil,if_pos (show((0:Nat):Int)=0 from rfl)];exact Ev.succ (by simp only[Xr.j0,if_true];exact Ev.const _)
  |cons n r=>
   simp only[List.length_cons]at hl;have hl2:((n::r).length:Int)=(r.length:Int)+1:=by simp only[List.length_cons];omega
   refine Ev.succ ?_;simp only[Xr.f,if_neg (show¬((n::r).length:Int)=0 by omega),decide_eq_false (show¬((d+1:Nat):Int)<1 by omega)];refine Ev.succ ?_;simp only[Xr.j0,Bool.false_eq_true,if_false,if_pos (show(0:Int)<((n::r).length:Int) by omega),show Xa (n::r) 0=n from rfl];refine Ev.bind (right_val n (ok n List.mem_cons_self)) ?_;have hb:=itm_le n;by_cases g:itm n<0
   ·simp only[if_pos g,Xav,Bool.false_eq_true,if_false];exact Ev.const _
   ·by_cases g5:n.f0=5
    ·simp only[if_neg g,Xav,if_true,if_pos g5];have hF:∀m,Ev (fun k=>Xr.f k (r.drop m) (d:Int)) (Xav d (r.drop m)):=fun m=>ih (by omega) (r.drop m) (fun x hx=>ok x (List.mem_cons_of_mem _ (List.mem_of_mem_drop hx))) (by rw[List.length_drop];omega);have:=floop_ev n r d (by omega) (by omega) (itm n) hb hF (itm n).toNat 0 (itm n) 0 0 (by omega) (by omega) (by omega) (by omega) (by omega) (by omega) (by omega);rw[List.drop_zero]at this;exact this
    ·simp only[if_neg g,Xav,if_true,if_neg g5];exact Ev.const _
theorem walk_first:∀(d:Nat)(l:List S32)(st:List Int)(all D i:Int),st.length+d=16→0≤all→all≤1048576→(st.length:Int)≤D→
    Xc1 all D st i l=if(Xav d l).1=0∨all+(Xav d l).2.1>1048576 then(0,0,0)else fin (all+(Xav d l).2.1) (mx D ((st.length:Int)+(Xav d l).2.2)) (clr (decT st)) (i+(Xav d l).1) (l.drop (Xav d l).1.toNat):=by
  intro d
  induction d with
  |zero=>
    intro l st all D i hst h0 h1 hD;simp only[Xav,true_or,if_true];cases l with
    |nil=>simp only[Xc1]
    |cons n r=>simp only[Xc1,if_pos (show itm n<0∨wrap64 (all+itm n)>1048576∨16≤st.length from .inr (.inr (by omega)))]
  |succ d ih=>
    intro l st all D i hst h0 h1 hD;cases l with
    |nil=>simp only[Xav,true_or,if_true,Xc1]
    |cons n r=>
      have hb:=itm_le n;by_cases g:itm n<0
      · simp only[Xav,if_pos g,true_or,if_true,Xc1,if_pos (show itm n<0∨wrap64 (all+itm n)>1048576∨16≤st.length from .inl g)]
      · have hw:wrap64 (all+itm n)=all+itm n:=w64 (by omega) (by omega);have hq:wrap64 ((st.length:Int)+1)=(st.length:Int)+1:=w64 (by omega) (by omega);by_cases g2:all+itm n>1048576
        · have hL:Xc1 all D st i (n::r)=(0,0,0):=by simp only[Xc1,if_pos (show itm n<0∨wrap64 (all+itm n)>1048576∨16≤st.length from .inr (.inl (by rw[hw];exact g2)))]
          rw[hL];by_cases g5:n.f0=5
          · have:=lp_ans (fun l=>Xav d l) d (Xc9 d) (itm n).toNat r 1 (itm n) 0 (by omega) (by omega) (by omega) (by omega) (by omega);simp only[Xav,if_neg g,if_pos g5]
            revert this
            generalize lpS (fun l=>Xav d l) (itm n).toNat r 1 (itm n) 0=z;intro h;rw[if_pos];rcases h with h|h
            · left;rw[h]
            · right;omega
          · simp only[Xav,if_neg g,if_neg g5,if_pos (show(1:Int)=0∨all+itm n>1048576 from .inr g2)]
        · have hnf:¬(itm n<0∨wrap64 (all+itm n)>1048576∨16≤st.length):=by rw[hw];clear ih;omega
          rw[walkS_fin hnf,hw,hq];clear hnf;by_cases g5:n.f0=5
          · have hp:Xd5 st n=itm n::st:=by unfold Xd5;rw[if_pos g5]
            rw[hp];simp only[Xav,if_neg g,if_pos g5];have loop:∀(c:Nat)(r':List S32)(u it dep:Int),(c:Int)+1≤1048576→1≤u→0≤it→it≤1048576→all+it≤1048576→0≤dep→dep≤(d:Int)→
                Xc1 (all+it) (mx D ((st.length:Int)+1+dep)) (((c+1:Nat):Int)::st) (i+u) r'=
                  if(lpS (fun l=>Xav d l) (c+1) r' u it dep).1=0∨all+(lpS (fun l=>Xav d l) (c+1) r' u it dep).2.1>1048576 then(0,0,0)
                  else fin (all+(lpS (fun l=>Xav d l) (c+1) r' u it dep).2.1) (mx D ((st.length:Int)+(lpS (fun l=>Xav d l) (c+1) r' u it dep).2.2)) (clr (decT st)) (i+(lpS (fun l=>Xav d l) (c+1) r' u it dep).1) (r'.drop ((lpS (fun l=>Xav d l) (c+1) r' u it dep).1-u).toNat):=by
              intro c
              induction c with
              |zero=>
                intro r' u it dep q0 q1 q2 q3 q4 q5 q6;have m1:=Xex D ((st.length:Int)+1+dep);rw[ih r' (((0+1:Nat):Int)::st) (all+it) (mx D ((st.length:Int)+1+dep)) (i+u) (by simp only[List.length_cons];omega) (by omega) (by omega) (by simp only[List.length_cons];omega)];have han:=Xc9 d r';have hun:lpS (fun l=>Xav d l) (0+1) r' u it dep=if(Xav d r').1=0∨it+(Xav d r').2.1>1048576 then(0,0,0)else(u+(Xav d r').1,it+(Xav d r').2.1,mx dep (Xav d r').2.2+1):=by simp only[lpS]
                rw[hun];clear hun
                revert han
                generalize Xav d r'=x;intro han;have hcl:clr (decT (((0+1:Nat):Int)::st))=clr (decT st):=by
                  have hd1:dec1 ((0+1:Nat):Int)=0:=by unfold dec1;rw[w64 (by omega) (by omega)];omega
                  show clr (dec1 ((0+1:Nat):Int)::st)=_;rw[hd1,Xeh,if_pos rfl]
                rw[hcl];rcases han with e|e
                · simp only[e,true_or,if_true]
                · have hx:¬x.1=0:=by omega
                  by_cases g3:it+x.2.1>1048576
                  · rw[if_pos (show x.1=0∨all+it+x.2.1>1048576 by omega)];simp only[if_pos (show x.1=0∨it+x.2.1>1048576 from .inr g3),true_or,if_true]
                  · simp only[if_neg (show¬(x.1=0∨it+x.2.1>1048576) by omega)];have e1:all+it+x.2.1=all+(it+x.2.1):=by omega
                    rw[e1];by_cases g4:all+(it+x.2.1)>1048576
                    · rw[if_pos (.inr g4),if_pos (.inr g4)]
                    · rw[if_neg (by omega),if_neg (by omega)];have e2:mx (mx D ((st.length:Int)+1+dep)) (((((0+1:Nat):Int)::st).length:Int)+x.2.2)=mx D ((st.length:Int)+(mx dep x.2.2+1)):=by have a1:=Xex dep x.2.2;have a2:=Xex D ((st.length:Int)+(mx dep x.2.2+1));simp only[List.length_cons];exact mx_eq (by omega) (by omega) (by omega)
                      rw[e2,show i+u+x.1=i+(u+x.1) by omega,show(u+x.1-u).toNat=x.1.toNat by omega]
              |succ c ihc=>
                intro r' u it dep q0 q1 q2 q3 q4 q5 q6;have m1:=Xex D ((st.length:Int)+1+dep);rw[ih r' (((c+1+1:Nat):Int)::st) (all+it) (mx D ((st.length:Int)+1+dep)) (i+u) (by simp only[List.length_cons];omega) (by omega) (by omega) (by simp only[List.length_cons];omega)];have han:=Xc9 d r';have hun:lpS (fun l=>Xav d l) (c+1+1) r' u it dep=if(Xav d r').1=0∨it+(Xav d r').2.1>1048576 then(0,0,0)else lpS (fun l=>Xav d l) (c+1) (r'.drop (Xav d r').1.toNat) (u+(Xav d r').1) (it+(Xav d r').2.1) (mx dep (Xav d r').2.2):=by simp only[lpS]
                rw[hun];clear hun
                revert han
                generalize Xav d r'=x;intro han;have hcl:clr (decT (((c+1+1:Nat):Int)::st))=((c+1:Nat):Int)::st:=by
                  have hd1:dec1 ((c+1+1:Nat):Int)=((c+1:Nat):Int):=by unfold dec1;rw[w64 (by omega) (by omega)];omega
                  show clr (dec1 ((c+1+1:Nat):Int)::st)=_;rw[hd1,Xeh,if_neg (by omega)]
                rw[hcl];rcases han with e|e
                · simp only[e,true_or,if_true]
                · have hx:¬x.1=0:=by omega
                  by_cases g3:it+x.2.1>1048576
                  · rw[if_pos (show x.1=0∨all+it+x.2.1>1048576 by omega)];simp only[if_pos (show x.1=0∨it+x.2.1>1048576 from .inr g3),true_or,if_true]
                  · rw[if_neg (show¬(x.1=0∨it+x.2.1>1048576) by omega)];have e1:all+it+x.2.1=all+(it+x.2.1):=by omega
                    rw[e1];have a1:=Xex dep x.2.2;by_cases g4:all+(it+x.2.1)>1048576
                    · rw[if_pos (.inr g4)];have:=lp_ans (fun l=>Xav d l) d (Xc9 d) (c+1) (r'.drop x.1.toNat) (u+x.1) (it+x.2.1) (mx dep x.2.2) (by omega) (by omega) (by omega) (by omega) (by omega)
                      revert this
                      generalize lpS (fun l=>Xav d l) (c+1) (r'.drop x.1.toNat) (u+x.1) (it+x.2.1) (mx dep x.2.2)=z;intro h;rw[if_pos];rcases h with h|h
                      · left;rw[h]
                      · right;omega
                    · rw[if_neg (by omega),fin_cons (List.cons_ne_nil _ _)];have e2:mx (mx D ((st.length:Int)+1+dep)) (((((c+1+1:Nat):Int)::st).length:Int)+x.2.2)=mx D ((st.length:Int)+1+mx dep x.2.2):=by have a2:=Xex D ((st.length:Int)+1+mx dep x.2.2);simp only[List.length_cons];exact mx_eq (by omega) (by omega) (by omega)
                      rw[e2,show i+u+x.1=i+(u+x.1) by omega,ihc (r'.drop x.1.toNat) (u+x.1) (it+x.2.1) (mx dep x.2.2) (by omega) (by omega) (by omega) (by omega) (by omega) (by omega) (by omega)];have han2:=lp_ans (fun l=>Xav d l) d (Xc9 d) (c+1) (r'.drop x.1.toNat) (u+x.1) (it+x.2.1) (mx dep x.2.2) (by omega) (by omega) (by omega) (by omega) (by omega)
                      revert han2
                      generalize lpS (fun l=>Xav d l) (c+1) (r'.drop x.1.toNat) (u+x.1) (it+x.2.1) (mx dep x.2.2)=z;intro han2;rcases han2 with h|h
                      · simp only[h,true_or,if_true]
                      · rw[List.drop_drop,show x.1.toNat+(z.1-(u+x.1)).toNat=(z.1-u).toNat by omega]
            by_cases hz:itm n=0
            · rw[hz,Xeh,if_pos rfl];simp only[Int.toNat_zero,lpS];rw[if_neg (by omega),Int.zero_add];rfl
            · obtain⟨c,hc⟩:∃c:Nat,itm n=((c+1:Nat):Int):=⟨(itm n).toNat-1,by omega⟩;rw[Xeh,if_neg hz,fin_cons (List.cons_ne_nil _ _)];have:=loop c r 1 (itm n) 0 (by omega) (by omega) (by omega) (by omega) (by omega) (by omega) (by omega);rw[←hc,Int.add_zero]at this;rw[this,show(itm n).toNat=c+1 by omega];have han2:=lp_ans (fun l=>Xav d l) d (Xc9 d) (c+1) r 1 (itm n) 0 (by omega) (by omega) (by omega) (by omega) (by omega)
              revert han2
              generalize lpS (fun l=>Xav d l) (c+1) r 1 (itm n) 0=z;intro han2;rcases han2 with h|h
              · simp only[h,true_or,if_true]
              · rw[show z.1.toNat=(z.1-1).toNat+1 by omega,List.drop_succ_cons]
          · have hp:Xd5 st n=decT st:=by unfold Xd5;rw[if_neg g5]
            rw[hp];simp only[Xav,if_neg g,if_neg g5];rw[if_neg (by omega)];rfl
theorem walk_is(l:List S32):Xc1 0 0 [] 0 l=Xav 16 l:=by
 rw[walk_first 16 l [] 0 0 0 (by simp) (by omega) (by omega) (by simp)];have han:=Xc9 16 l
 revert han
 generalize Xav 16 l=x;intro han;rcases han with e|e
 ·simp only[e,true_or,if_true]
 ·rw[if_neg (by omega)];show fin (0+x.2.1) (mx 0 ((([]:List Int).length:Int)+x.2.2)) (clr []) (0+x.1) _=x;rw[clr_nil];have:mx 0 ((([]:List Int).length:Int)+x.2.2)=x.2.2:=by simp only[List.length_nil];exact mx_eq (by omega) (by omega) (by omega)
  rw[this,Int.zero_add,Int.zero_add];rfl
def OkE(y:S35):Prop:=In64 y.f0∧In64 y.f1
theorem OkE.d{y:S35}(h:OkE y):OkD y:=h.2
theorem ten_le{x:Int}{e:Nat}(h0:x≠0)(h:In64 (x*10^e)):e≤18:=by
 obtain⟨h1,h2⟩:=h;refine Nat.not_lt.1 fun hlt=>?_;have h3:(10:Nat)^19≤10^e:=Nat.pow_le_pow_right (by decide) hlt;have h4:(x*10^e).natAbs=x.natAbs*10^e:=by rw[Int.natAbs_mul,Int.natAbs_pow];rfl
 have h5:10^e≤x.natAbs*10^e:=Nat.le_mul_of_pos_left _ (by omega);have h6:(10:Nat)^19=10000000000000000000:=by decide
 generalize x*10^e=z at h1 h2 h4;generalize (10:Nat)^e=q at h3 h5 h4;omega
theorem In64.mul_down{m:Int}{i j:Nat}(hij:i≤j)(h:In64 (m*10^j)):In64 (m*10^i):=by
 obtain⟨h1,h2⟩:=h;have h3:(10:Int)^i≤10^j:=by
  have:=Nat.pow_le_pow_right (show 0<10 by decide) hij
  exact_mod_cast this
 have h4:(0:Int)<10^i:=by
  have:=Nat.pow_pos (show 0<10 by decide) (n:=i)
  exact_mod_cast this
 unfold In64;by_cases c:0≤m
 ·have h5:=Int.mul_le_mul_of_nonneg_left h3 c;have h6:=Int.mul_nonneg c (Int.le_of_lt h4);omega
 ·have h5:=Int.mul_le_mul_of_nonneg_left h3 (show 0≤ -m by omega);have h6:=Int.mul_nonneg (show 0≤ -m by omega) (Int.le_of_lt h4);rw[Int.neg_mul,Int.neg_mul]at h5;rw[Int.neg_mul]at h6;omega
theorem norm_of:∀(d:Nat)(x:Int)(e:Nat),x≠0→x.natAbs≤d→In64 (x*10^e)→∃(m:Int)(j:Nat),Ev (fun k=>X8.l0 k x (e:Int)) (m,(j:Int),true)∧m≠0∧Int.tmod m 10≠0∧m*10^j=x*10^e∧j≤18:=by
 intro d
 induction d with
 |zero=>intro x e h0 h1;exact absurd (show x=0 by omega) h0
 |succ d ih=>
  intro x e h0 h1 h2;have he:=ten_le h0 h2;by_cases h:Int.tmod x 10=0
  ·have hx:x=Int.tdiv x 10*10:=by have:=Int.mul_tdiv_add_tmod x 10;omega
   have hx64:In64 (x*10^0):=In64.mul_down (Nat.zero_le e) h2;rw[Int.pow_zero,Int.mul_one]at hx64;obtain⟨b1,b2⟩:=hx64;have hp:Int.tdiv x 10*10^(e+1)=x*10^e:=by rw[Int.pow_succ,Int.mul_comm (10^e) 10,←Int.mul_assoc,←hx]
   obtain⟨m,j,q1,q2,q3,q4,q5⟩:=ih (Int.tdiv x 10) (e+1) (by omega) (by omega) (by rw[hp];exact h2);refine⟨m,j,Ev.succ ?_,q2,q3,q4.trans hp,q5⟩;simp only[X8.l0,if_pos h,if_pos (show(e:Int)≤32767 by omega)];rw[w64 (n:=Int.tdiv x 10) (by omega) (by omega),w64 (n:=(e:Int)+1) (by omega) (by omega)];exact q1
  ·refine⟨x,e,Ev.succ ?_,h0,h,rfl,he⟩;simp only[X8.l0,if_neg h,if_neg (show¬(e:Int)< -32768 by omega),if_neg (show¬(e:Int)>32767 by omega)];exact Ev.const _
def OfI(v:Int)(y:S35):Prop:=∃j:Nat,y.f1=(j:Int)∧j≤18∧y.f0*10^j=v∧(v=0→y.f0=0∧j=0)∧(v≠0→y.f0≠0∧Int.tmod y.f0 10≠0)
theorem of_some(v:Int)(h:In64 v):∃y:S35,Ev (fun k=>Xba.f k v) (y.f0,y.f1)∧OfI v y:=by
 by_cases h0:v=0
 ·refine⟨⟨0,0⟩,?_,0,rfl,by omega,by rw[h0];rfl,fun _=>⟨rfl,rfl⟩,fun g=>absurd h0 g⟩;simp only[Xba.f,X8.f,if_pos h0];exact Ev.bind (Ev.const _) (Ev.const _)
 ·obtain⟨m,j,q1,q2,q3,q4,q5⟩:=norm_of v.natAbs v 0 h0 (Nat.le_refl _) (by rw[Int.pow_zero,Int.mul_one];exact h);rw[Int.pow_zero,Int.mul_one]at q4;refine⟨⟨m,j⟩,?_,j,rfl,q5,q4,fun g=>absurd g h0,fun _=>⟨q2,q3⟩⟩;simp only[Xba.f,X8.f,if_neg h0];exact Ev.bind q1 (Ev.const _)
noncomputable def ofD (v:Int):S35:=open Classical in if h:∃y:S35,Ev (fun k=>Xba.f k v) (y.f0,y.f1)∧OfI v y then h.choose else⟨0,0⟩
theorem Xdp(v:Int)(h:In64 v):Ev (fun k=>Xba.f k v) ((ofD v).f0,(ofD v).f1)∧OfI v (ofD v):=by have e:=of_some v h;unfold ofD;rw[dif_pos e];exact e.choose_spec
theorem OfI.ok{v:Int}{y:S35}(h:OfI v y)(hv:In64 v):OkE y:=by obtain⟨j,e1,e2,e3,e4,e5⟩:=h;refine⟨?_,by unfold In64;omega⟩;have:=In64.mul_down (Nat.zero_le j) (m:=y.f0) (by rw[e3];exact hv);rw[Int.pow_zero,Int.mul_one]at this;exact this
theorem OfI.right{v:Int}{y:S35}(h:OfI v y):Ev (fun k=>Xaa.f k y.f0 y.f1) true:=by
 obtain⟨j,e1,e2,e3,e4,e5⟩:=h;simp only[Xaa.f,X8.f];by_cases h0:v=0
 ·obtain⟨g1,g2⟩:=e4 h0;simp only[if_pos g1];refine Ev.bind (Ev.const _) ?_;rw[e1,g1,g2];exact Ev.const _
 ·obtain⟨g1,g2⟩:=e5 h0;simp only[if_neg g1];refine Ev.bind (u:=(y.f0,y.f1,true)) (Ev.succ ?_) ?_
  ·simp only[X8.l0,if_neg g2,if_neg (show¬y.f1< -32768 by omega),if_neg (show¬y.f1>32767 by omega)];exact Ev.const _
  ·simp only[if_true,BEq.rfl,Bool.and_self];exact Ev.const _
theorem whole_up{m:Int}{j:Nat}(hj:j≤18)(h:In64 (m*10^j)):∀d i,i≤j→j-i=d→Ev (fun k=>Xq.l0 k (m*10^i) (j:Int) (i:Int)) (m*10^j,true):=by
 intro d
 induction d with
 |zero=>
  intro i h1 h2;obtain rfl:i=j:=by omega
  refine Ev.succ ?_;simp only[Xq.l0,if_neg (Int.lt_irrefl _)];exact Ev.const _
 |succ d ih=>
  intro i h1 h2;have e:m*10^i*10=m*10^(i+1):=by rw[Int.pow_succ,Int.mul_assoc]
  have hb:=In64.mul_down (show i+1≤j by omega) h;have hc:=In64.mul_down (show i≤j by omega) h;obtain⟨b1,b2⟩:=hb;obtain⟨c1,c2⟩:=hc;have hw:wrap64 (m*10^(i+1))=m*10^(i+1):=w64 b1 b2;have ht:Int.tdiv (m*10^(i+1)) 10=m*10^i:=by rw[←e];exact Int.mul_tdiv_cancel _ (by decide)
  have hi:wrap64 ((i:Int)+1)=((i+1:Nat):Int):=by rw[w64 (by omega) (by omega)];omega
  refine Ev.succ ?_;simp only[Xq.l0,if_pos (show(i:Int)<(j:Int) by omega),e,hw,ht,w64 c1 c2,if_true,hi];exact ih (i+1) (by omega) (by omega)
theorem OfI.whole{v:Int}{y:S35}(h:OfI v y)(hv:In64 v):Ev (fun k=>Xq.f k y.f0 y.f1) (v,true):=by have hr:=h.right;obtain⟨j,e1,e2,e3,e4,e5⟩:=h;simp only[Xq.f];refine Ev.bind hr ?_;simp only[if_true,if_neg (show¬y.f1<0 by omega),decide_eq_false (show¬y.f1>18 by omega)];refine Ev.succ ?_;simp only[Xq.j0,Bool.false_eq_true,if_false];have:=whole_up e2 (m:=y.f0) (by rw[e3];exact hv) j 0 (by omega) (by omega);rw[Int.pow_zero,Int.mul_one,e3]at this;rw[e1];exact this
theorem In64.wrap(x:Int):In64 (wrap64 x):=by unfold In64 wrap64;omega
theorem whole_some:∀(d:Nat)(n:Int)(j i:Nat),j≤18→i≤j→j-i=d→In64 n→∃v,Ev (fun k=>Xq.l0 k n (j:Int) (i:Int)) v∧In64 v.1:=by
 intro d
 induction d with
 |zero=>
  intro n j i h0 h1 h2 hn;obtain rfl:i=j:=by omega
  refine⟨(n,true),Ev.succ ?_,hn⟩;simp only[Xq.l0,if_neg (Int.lt_irrefl _)];exact Ev.const _
 |succ d ih=>
  intro n j i h0 h1 h2 hn;have hi:wrap64 ((i:Int)+1)=((i+1:Nat):Int):=by rw[w64 (by omega) (by omega)];omega
  by_cases g:wrap64 (Int.tdiv (wrap64 (n*10)) 10)=n
  ·obtain⟨v,q1,q2⟩:=ih (wrap64 (n*10)) j (i+1) h0 (by omega) (by omega) (In64.wrap _);refine⟨v,Ev.succ ?_,q2⟩;simp only[Xq.l0,if_pos (show(i:Int)<(j:Int) by omega),if_pos g,hi];exact q1
  ·refine⟨(0,false),Ev.succ ?_,by unfold In64;omega⟩;simp only[Xq.l0,if_pos (show(i:Int)<(j:Int) by omega),if_neg g];exact Ev.const _
theorem wh_total(y:S35)(h:OkE y):∃v,Ev (fun k=>Xq.f k y.f0 y.f1) v∧In64 v.1:=by
 have hr:=Xe8 y h.d;have hno:Ev (fun k=>Xq.j0 k true y.f0 y.f1) (0,false):=Ev.succ (by simp only[Xq.j0,if_true];exact Ev.const _);have h0:In64 0:=by unfold In64;omega
 cases g:dr y with
 |false=> rw[g]at hr;refine⟨(0,false),?_,h0⟩;simp only[Xq.f];refine Ev.bind hr ?_;simp only[Bool.false_eq_true,if_false];exact hno
 |true=>
  rw[g]at hr;by_cases c1:y.f1<0
  ·refine⟨(0,false),?_,h0⟩;simp only[Xq.f];refine Ev.bind hr ?_;simp only[if_true,if_pos c1];exact hno
  ·by_cases c2:y.f1>18
   ·refine⟨(0,false),?_,h0⟩;simp only[Xq.f];refine Ev.bind hr ?_;simp only[if_true,if_neg c1,decide_eq_true c2];exact hno
   ·obtain⟨j,hj⟩:∃j:Nat,y.f1=(j:Int):=⟨y.f1.toNat,by omega⟩;obtain⟨v,q1,q2⟩:=whole_some j y.f0 j 0 (by omega) (by omega) (by omega) h.1;refine⟨v,?_,q2⟩;simp only[Xq.f];refine Ev.bind hr ?_;simp only[if_true,if_neg c1,decide_eq_false c2];refine Ev.succ ?_;simp only[Xq.j0,Bool.false_eq_true,if_false];rw[hj];exact q1
noncomputable def wh (y:S35):Int×Bool:=open Classical in if h:∃v,Ev (fun k=>Xq.f k y.f0 y.f1) v∧In64 v.1 then h.choose else(0,false)
theorem wh_ev(y:S35)(h:OkE y):Ev (fun k=>Xq.f k y.f0 y.f1) (wh y)∧In64 (wh y).1:=by have e:=wh_total y h;unfold wh;rw[dif_pos e];exact e.choose_spec
theorem wh_of{v:Int}{y:S35}(h:OfI v y)(hv:In64 v):wh y=(v,true):=Ev.uniq (wh_ev y (h.ok hv)).1 (h.whole hv)
theorem dr_of{v:Int}{y:S35}(h:OfI v y)(hv:In64 v):dr y=true:=Ev.uniq (Xe8 y (h.ok hv).d) h.right
theorem whole_loop(l:List S35)(ok:∀y∈l,OkE y)(hl:l.length≤8000000000000):∀d i(acc:List Int),i≤l.length→l.length-i=d→acc.length=i→
  Ev (fun k=>Xa4.l0 k acc l (l.length:Int) (i:Int)) (if(l.drop i).all (fun y=>(wh y).2)=true then(acc++(l.drop i).map (fun y=>(wh y).1),true)else([],false)):=by
 intro d
 induction d with
 |zero=> intro i acc h1 h2 h3;rw[List.drop_eq_nil_of_le (by omega)];refine Ev.succ ?_;simp only[Xa4.l0,if_neg (show¬((i:Int)<(l.length:Int)) by omega),List.all_nil,if_true,List.map_nil,List.append_nil];exact Ev.const _
 |succ d ih=>
  intro i acc h1 h2 h3;have hi:i<l.length:=by omega
  have hw:=wh_ev l[i] (ok _ (List.getElem_mem _));have hv:=ih (i+1) (acc++[(wh l[i]).1]) (by omega) (by omega) (by rw[List.length_append,List.length_singleton,h3]);rw[List.drop_eq_getElem_cons hi,List.all_cons,List.map_cons];rw[List.append_assoc,List.singleton_append]at hv;refine Ev.succ ?_;simp only[Xa4.l0,if_pos (show((i:Int)<(l.length:Int)) by omega),if_pos (show(0:Int)≤(i:Int) by omega),Xdw l i hi,ix hi (show l.length≤9223372036854775807 by omega)];refine Ev.bind hw.1 ?_;cases g:(wh l[i]).2 with
  |false=>simp only[Bool.false_eq_true,if_false,Bool.false_and];exact Ev.const _
  |true=> simp only[if_true,Bool.true_and,if_pos (show acc.length<17592186044416 by omega)];exact hv
theorem whole_ev(l:List S35)(ok:∀y∈l,OkE y)(hl:l.length≤8000000000000):Ev (fun k=>Xa4.f k l) (if l.all (fun y=>(wh y).2)=true then(l.map (fun y=>(wh y).1),true)else([],false)):=by have:=whole_loop l ok hl l.length 0 [] (by omega) (by omega) rfl;rw[List.drop_zero,List.nil_append]at this;simp only[Xa4.f];exact this
theorem wrong_loop(l:List S35)(ok:∀y∈l,OkE y)(hl:l.length≤8000000000000):∀d i,i≤l.length→l.length-i=d→∃r:Int,Ev (fun k=>Xbk.l0 k l (l.length:Int) (i:Int)) r∧decide (r≥0)= !(l.drop i).all dr:=by
 intro d
 induction d with
 |zero=> intro i h1 h2;rw[List.drop_eq_nil_of_le (by omega)];refine⟨-1,Ev.succ ?_,rfl⟩;simp only[Xbk.l0,if_neg (show¬((i:Int)<(l.length:Int)) by omega)];exact Ev.const _
 |succ d ih=>
  intro i h1 h2;have hi:i<l.length:=by omega
  have hd:=Xe8 l[i] (ok _ (List.getElem_mem _)).d;obtain⟨r,q1,q2⟩:=ih (i+1) (by omega) (by omega);rw[List.drop_eq_getElem_cons hi,List.all_cons];cases g:dr l[i]with
  |false=> rw[g]at hd;refine⟨(i:Int),Ev.succ ?_,by rw[Bool.false_and];exact decide_eq_true (by omega)⟩;simp only[Xbk.l0,if_pos (show((i:Int)<(l.length:Int)) by omega),if_pos (show(0:Int)≤(i:Int) by omega),Xdw l i hi,Xbu.f];exact Ev.bind (u:=true) (Ev.bind hd (Ev.const _)) (Ev.const _)
  |true=> rw[g]at hd;refine⟨r,Ev.succ ?_,by rw[Bool.true_and];exact q2⟩;simp only[Xbk.l0,if_pos (show((i:Int)<(l.length:Int)) by omega),if_pos (show(0:Int)≤(i:Int) by omega),Xdw l i hi,Xbu.f,ix hi (show l.length≤9223372036854775807 by omega)];exact Ev.bind (u:=false) (Ev.bind hd (Ev.const _)) q1
theorem wrong_ev(l:List S35)(ok:∀y∈l,OkE y)(hl:l.length≤8000000000000):Ev (fun k=>Xco.f k l) (!l.all dr):=by obtain⟨r,q1,q2⟩:=wrong_loop l ok hl l.length 0 (by omega) (by omega);rw[List.drop_zero]at q2;simp only[Xco.f,Xbk.f];refine Ev.bind q1 ?_;rw[q2];exact Ev.const _
def bit(v:Int):Bool:=v==0||v==1
theorem great_loop(l:List Int)(ok:∀v∈l,In64 v)(hl:l.length≤8000000000000):∀d i,i≤l.length→l.length-i=d→∃r:Int,Ev (fun k=>Xs.l0 k l (l.length:Int) (i:Int)) r∧decide (r≥0)= !(l.drop i).all bit:=by
 intro d
 induction d with
 |zero=> intro i h1 h2;rw[List.drop_eq_nil_of_le (by omega)];refine⟨-1,Ev.succ ?_,rfl⟩;simp only[Xs.l0,if_neg (show¬((i:Int)<(l.length:Int)) by omega)];exact Ev.const _
 |succ d ih=>
  intro i h1 h2;have hi:i<l.length:=by omega
  have hb:Xcl.f l[i]=some (!bit l[i]):=by unfold Xcl.f bit;rw[←andNot1 l[i] (ok _ (List.getElem_mem _))];rfl
  obtain⟨r,q1,q2⟩:=ih (i+1) (by omega) (by omega);rw[List.drop_eq_getElem_cons hi,List.all_cons];cases g:bit l[i]with
  |false=> rw[g]at hb;refine⟨(i:Int),Ev.succ ?_,by rw[Bool.false_and];exact decide_eq_true (by omega)⟩;simp only[Xs.l0,if_pos (show((i:Int)<(l.length:Int)) by omega),if_pos (show(0:Int)≤(i:Int) by omega),Xdl l i hi,hb];exact Ev.bind (u:=true) (Ev.const _) (Ev.const _)
  |true=> rw[g]at hb;refine⟨r,Ev.succ ?_,by rw[Bool.true_and];exact q2⟩;simp only[Xs.l0,if_pos (show((i:Int)<(l.length:Int)) by omega),if_pos (show(0:Int)≤(i:Int) by omega),Xdl l i hi,hb,ix hi (show l.length≤9223372036854775807 by omega)];exact Ev.bind (u:=false) (Ev.const _) q1
theorem great_ev(l:List Int)(ok:∀v∈l,In64 v)(hl:l.length≤8000000000000):Ev (fun k=>Xae.f k l) (!l.all bit):=by obtain⟨r,q1,q2⟩:=great_loop l ok hl l.length 0 (by omega) (by omega);rw[List.drop_zero]at q2;simp only[Xae.f,Xs.f];refine Ev.bind q1 ?_;rw[q2];exact Ev.const _
noncomputable def nbS (s:List Int) (l:List S35):Int×List Int×List Int×List S35×Bool:=
 if(Sh.cnt s).2=true∧(Sh.cnt s).1=(l.length:Int)∧l.all dr=true then
  (if l.all (fun y=>(wh y).2)=true then((if 0<l.length∧(l.map (fun y=>(wh y).1)).all bit=true then 1 else 2),s,l.map (fun y=>(wh y).1),[],true)else(4,s,[],l,true))
 else(0,[],[],[],false)
theorem numbers_ev(s:List Int)(l:List S35)(ok:∀y∈l,OkE y)(hs:s.length≤8000000000000)(hl:l.length≤8000000000000):Ev (fun k=>X3.f k s l) (nbS s l):=by
 have hc:=cnt_ev s;have hno:Ev (fun k=>X3.j0 k s l true) (0,[],[],[],false):=Ev.succ (by simp only[X3.j0,if_true];exact Ev.const _);unfold nbS
 revert hc
 generalize Sh.cnt s=c;intro hc;simp only[X3.f];refine Ev.bind hc ?_;by_cases g1:c.2=true
 ·by_cases g2:c.1=(l.length:Int)
  ·simp only[if_pos g1,if_pos g2];refine Ev.bind (wrong_ev l ok hl) ?_;cases g3:l.all dr with
   |false=> rw[if_neg (by simp)];exact hno
   |true=>
    rw[if_pos ⟨g1,g2,rfl⟩];refine Ev.succ ?_;simp only[X3.j0,Bool.not_true,Bool.false_eq_true,if_false,Xam.f,Option.bind_some,List.length_nil,Nat.zero_add,List.nil_append,if_pos (show s.length<17592186044416 by omega)];refine Ev.bind (whole_ev l ok hl) ?_;cases g4:l.all (fun y=>(wh y).2)with
    |false=> simp only[Bool.false_eq_true,if_false,Xc0.f,Option.bind_some,List.length_nil,Nat.zero_add,List.nil_append,if_pos (show l.length<8796093022208 by omega)];exact Ev.const _
    |true=>
     simp only[if_true];by_cases g5:(l.length:Int)>0
     ·simp only[if_pos g5];have hb:=great_ev (l.map (fun y=>(wh y).1)) (fun v hv=>by obtain⟨y,hy,rfl⟩:=List.mem_map.1 hv;exact(wh_ev y (ok y hy)).2) (by rw[List.length_map];exact hl);by_cases g6:(l.map (fun y=>(wh y).1)).all bit=true
      ·rw[g6]at hb;refine Ev.bind hb ?_;rw[if_pos (show 0<l.length∧(l.map (fun y=>(wh y).1)).all bit=true from⟨by omega,g6⟩)];simp only[Bool.not_true,Bool.false_eq_true,if_false];exact Ev.const _
      ·rw[Bool.eq_false_iff.mpr g6]at hb;refine Ev.bind hb ?_;rw[if_neg (show¬(0<l.length∧(l.map (fun y=>(wh y).1)).all bit=true)from fun h=>g6 h.2)];simp only[Bool.not_false,if_true];exact Ev.const _
     ·simp only[if_neg g5];rw[if_neg (fun h=>g5 (by omega))];exact Ev.const _
  ·rw[if_neg (fun h=>g2 h.2.1)];simp only[if_pos g1,if_neg g2];exact hno
 ·rw[if_neg (fun h=>g1 h.1)];simp only[if_neg g1];exact hno
theorem nums_loop(l:List Int)(ok:∀v∈l,In64 v)(hl:l.length≤8000000000000):∀d i(acc:List S35),i≤l.length→l.length-i=d→acc.length=i→
  Ev (fun k=>Xaj.l0 k acc l (l.length:Int) (i:Int)) (acc++(l.drop i).map ofD):=by
 intro d
 induction d with
 |zero=> intro i acc h1 h2 h3;rw[List.drop_eq_nil_of_le (by omega)];refine Ev.succ ?_;simp only[Xaj.l0,if_neg (show¬((i:Int)<(l.length:Int)) by omega),List.map_nil,List.append_nil];exact Ev.const _
 |succ d ih=>
  intro i acc h1 h2 h3;have hi:i<l.length:=by omega
  have hw:=Xdp l[i] (ok _ (List.getElem_mem _));have hv:=ih (i+1) (acc++[ofD l[i]]) (by omega) (by omega) (by rw[List.length_append,List.length_singleton,h3]);rw[List.drop_eq_getElem_cons hi,List.map_cons];rw[List.append_assoc,List.singleton_append]at hv;refine Ev.succ ?_;simp only[Xaj.l0,if_pos (show((i:Int)<(l.length:Int)) by omega),if_pos (show(0:Int)≤(i:Int) by omega),Xdl l i hi,ix hi (show l.length≤9223372036854775807 by omega)];refine Ev.bind hw.1 ?_;simp only[if_pos (show acc.length<8796093022208 by omega)];exact hv
noncomputable def Xc5 (n:S32):List S35:=if n.f0=4 then n.f3 else n.f2.map ofD
theorem nums_ev(n:S32)(ok:∀v∈n.f2,In64 v)(hl:n.f2.length≤8000000000000):Ev (fun k=>Xaj.f k n.f0 n.f1 n.f2 n.f3) (Xc5 n):=by
 unfold Xc5;by_cases g:n.f0=4
 ·simp only[Xaj.f,if_pos g];exact Ev.const _
 ·have:=nums_loop n.f2 ok hl n.f2.length 0 [] (by omega) (by omega) rfl;rw[List.drop_zero,List.nil_append]at this;simp only[Xaj.f,if_neg g];exact this
theorem form_one(n:S32)(h3:n.f0≠3)(h5:n.f0≠5)(o2:∀v∈n.f2,In64 v)(o3:∀y∈n.f3,OkE y)(l1:n.f1.length≤8000000000000)(l2:n.f2.length≤8000000000000)(l3:n.f3.length≤8000000000000):
  Ev (fun k=>tight_form.f k [n]) [⟨(nbS n.f1 (Xc5 n)).1,(nbS n.f1 (Xc5 n)).2.1,(nbS n.f1 (Xc5 n)).2.2.1,(nbS n.f1 (Xc5 n)).2.2.2.1⟩]:=by
 have hok:∀y∈Xc5 n,OkE y:=by
  unfold Xc5;by_cases g:n.f0=4
  ·rw[if_pos g];exact o3
  ·rw[if_neg g];intro y hy;obtain⟨v,hv,rfl⟩:=List.mem_map.1 hy;exact(Xdp v (o2 v hv)).2.ok (o2 v hv)
 have hlen:(Xc5 n).length≤8000000000000:=by
  unfold Xc5;by_cases g:n.f0=4
  ·rw[if_pos g];exact l3
  ·rw[if_neg g,List.length_map];exact l2
 refine Ev.succ ?_;simp only[tight_form.f,List.length_singleton,if_pos (show(0:Int)<((1:Nat):Int) by decide),show Xa [n] 0=n from rfl,if_neg h3,if_neg h5];refine Ev.bind (nums_ev n o2 (by omega)) ?_;exact Ev.bind (numbers_ev n.f1 (Xc5 n) hok (by omega) (by omega)) (Ev.const _)
def RA:Nat→List S32→Prop
 |0,_=>False
 |d+1,a=>∃n,0≤itm n∧((n.f0≠5∧a=[n])∨(n.f0=5∧∃ks:List (List S32),itm n=(ks.length:Int)∧(∀k∈ks,RA d k)∧a=n::ks.flatten))
theorem RA.mono:∀{d:Nat}{a:List S32},RA d a→∀{e:Nat},d≤e→RA e a:=by
 intro d
 induction d with
 |zero=>intro a h;exact absurd h id
 |succ d ih=> intro a h e he;obtain⟨e,rfl⟩:∃e',e=e'+1:=⟨e-1,by omega⟩;obtain⟨n,h0,h1⟩:=h;refine⟨n,h0,h1.imp id fun h=>⟨h.1,?_⟩⟩;obtain⟨ks,k1,k2,k3⟩:=h.2;exact⟨ks,k1,fun k hk=>ih (k2 k hk) (by omega),k3⟩
theorem RA.node:∀{d:Nat}{a:List S32},RA d a→∀n∈a,0≤itm n:=by
 intro d
 induction d with
 |zero=>intro a h;exact absurd h id
 |succ d ih=>
  intro a h m hm;obtain⟨n,h0,⟨h1,rfl⟩|⟨h1,ks,k1,k2,rfl⟩⟩:=h
  ·rw[List.mem_singleton.1 hm];exact h0
  ·rcases List.mem_cons.1 hm with rfl|hm
   ·exact h0
   ·obtain⟨k,q1,q2⟩:=List.mem_flatten.1 hm;exact ih (k2 k q1) m q2
theorem RA.ne{d:Nat}{a:List S32}(h:RA d a):1≤d∧1≤a.length:=by
 cases d with
 |zero=>exact absurd h id
 |succ d=>
  obtain⟨n,h0,⟨h1,rfl⟩|⟨h1,ks,k1,k2,rfl⟩⟩:=h
  ·simp
  ·simp
noncomputable def sm (a:List S32):Int:=(a.map itm).sum
theorem sm_nil:sm []=0:=rfl
theorem Xcz(n:S32)(a:List S32):sm (n::a)=itm n+sm a:=by unfold sm;rw[List.map_cons,List.sum_cons]
theorem Xfa(a b:List S32):sm (a++b)=sm a+sm b:=by unfold sm;rw[List.map_append,List.sum_append]
theorem Xe9:∀{a:List S32},(∀n∈a,0≤itm n)→0≤sm a:=by
 intro a
 induction a with
 |nil=>intro _;exact Int.le_refl _
 |cons n a ih=> intro h;have h1:=h n (List.mem_cons_self ..);have h2:=ih fun m hm=>h m (List.mem_cons_of_mem _ hm);rw[Xcz];omega
theorem RA.kids{d:Nat}{ks:List (List S32)}(h:∀k∈ks,RA d k):∀n∈ks.flatten,0≤itm n:=fun n hn=>by
 obtain⟨k,q1,q2⟩:=List.mem_flatten.1 hn;exact(h k q1).node n q2
theorem lp_RA(d:Nat)(ih:∀l,Xav d l=(0,0,0)∨∃a t D,l=a++t∧RA D a∧D≤d∧Xav d l=((a.length:Int),sm a,(D:Int))):
  ∀(c:Nat)(r:List S32)(u m:Int)(dep:Nat),1≤u→dep≤d→lpS (fun l=>Xav d l) c r u m dep=(0,0,0)∨
   ∃(ks:List (List S32))(t:List S32)(D:Nat),r=ks.flatten++t∧ks.length=c∧(∀k∈ks,RA D k)∧dep≤D∧D≤d∧lpS (fun l=>Xav d l) c r u m dep=(u+(ks.flatten.length:Int),m+sm ks.flatten,(D:Int)+1):=by
 intro c
 induction c with
 |zero=> intro r u m dep h1 h2;refine .inr ⟨[],r,dep,by simp,rfl,by simp,Nat.le_refl _,h2,?_⟩;simp only[lpS,List.flatten_nil,List.length_nil,sm_nil];simp
 |succ c ihc=>
  intro r u m dep h1 h2;by_cases g:(Xav d r).1=0∨m+(Xav d r).2.1>1048576
  ·left;simp only[lpS,if_pos g]
  ·simp only[lpS,if_neg g];rcases ih r with e|⟨a,t,D,e1,e2,e3,e4⟩
   ·exact absurd (.inl (by rw[e])) g
   ·rw[e4];obtain⟨M,hM⟩:∃M:Nat,mx (dep:Int) (D:Int)=(M:Int)∧dep≤M∧D≤M∧M≤d:=by have:=Xex (dep:Int) (D:Int);exact⟨(mx (dep:Int) (D:Int)).toNat,by omega,by omega,by omega,by omega⟩
    rw[hM.1,Int.toNat_natCast];have hdr:r.drop a.length=t:=by rw[e1];exact List.drop_left
    rw[hdr];have hal:=e2.ne;rcases ihc t (u+(a.length:Int)) (m+sm a) M (by omega) hM.2.2.2 with q|⟨ks,t',D',q1,q2,q3,q4,q5,q6⟩
    ·exact .inl q
    ·refine .inr ⟨a::ks,t',D',by rw[e1,q1,List.flatten_cons,List.append_assoc],by rw[List.length_cons,q2],?_,by omega,q5,?_⟩
     ·intro k hk;rcases List.mem_cons.1 hk with rfl|hk
      ·exact e2.mono (by omega)
      ·exact q3 k hk
     ·rw[q6,List.flatten_cons,List.length_append,Xfa];simp only[Prod.mk.injEq,and_true];omega
theorem first_RA:∀(d:Nat)(l:List S32),Xav d l=(0,0,0)∨∃a t D,l=a++t∧RA D a∧D≤d∧Xav d l=((a.length:Int),sm a,(D:Int)):=by
 intro d
 induction d with
 |zero=>intro l;left;simp only[Xav]
 |succ d ih=>
  intro l;cases l with
  |nil=>left;simp only[Xav]
  |cons n r=>
   by_cases g:itm n<0
   ·left;simp only[Xav,if_pos g]
   ·by_cases g5:n.f0=5
    ·simp only[Xav,if_neg g,if_pos g5];rcases lp_RA d ih (itm n).toNat r 1 (itm n) 0 (by omega) (by omega)with q|⟨ks,t,D,q1,q2,q3,q4,q5,q6⟩
     ·exact .inl q
     ·refine .inr ⟨n::ks.flatten,t,D+1,by rw[q1];rfl,⟨n,by omega,.inr ⟨g5,ks,by omega,q3,rfl⟩⟩,by omega,?_⟩;have q7:lpS (fun l=>Xav d l) (itm n).toNat r 1 (itm n) 0=_:=q6;rw[q7,Xcz,List.length_cons];simp only[Prod.mk.injEq,and_true,true_and];omega
    ·right;refine⟨[n],r,1,rfl,⟨n,by omega,.inl ⟨g5,rfl⟩⟩,by omega,?_⟩;simp only[Xav,if_neg g,if_neg g5,Xcz,sm_nil,List.length_singleton,Int.add_zero];rfl
theorem RA_lp(d e:Nat)(hde:d≤e)(ih:∀a,RA d a→sm a≤1048576→∀r,∃D:Nat,D≤d∧1≤D∧Xav e (a++r)=((a.length:Int),sm a,(D:Int))):
  ∀(ks:List (List S32))(r:List S32)(u m:Int)(dep:Nat),(∀k∈ks,RA d k)→0≤m→m+sm ks.flatten≤1048576→dep≤d→
   ∃D:Nat,D≤d∧lpS (fun l=>Xav e l) ks.length (ks.flatten++r) u m dep=(u+(ks.flatten.length:Int),m+sm ks.flatten,(D:Int)+1):=by
 intro ks
 induction ks with
 |nil=> intro r u m dep h1 h2 h3 h4;refine⟨dep,h4,?_⟩;simp only[lpS,List.length_nil,List.flatten_nil,sm_nil];simp
 |cons a ks ihk=>
  intro r u m dep h1 h2 h3 h4;have ha:=h1 a (List.mem_cons_self ..);have hks:∀k∈ks,RA d k:=fun k hk=>h1 k (List.mem_cons_of_mem _ hk);rw[List.flatten_cons,Xfa]at h3;have p1:=Xe9 ha.node;have p2:=Xe9 (RA.kids hks);have hal:=ha.ne;obtain⟨D,q1,q2,q3⟩:=ih a ha (by omega) (ks.flatten++r);obtain⟨M,hM⟩:∃M:Nat,mx (dep:Int) (D:Int)=(M:Int)∧M≤d:=by have:=Xex (dep:Int) (D:Int);exact⟨(mx (dep:Int) (D:Int)).toNat,by omega,by omega⟩
  obtain⟨D',q4,q5⟩:=ihk r (u+(a.length:Int)) (m+sm a) M hks (by omega) (by omega) hM.2;refine⟨D',q4,?_⟩;rw[List.flatten_cons,List.append_assoc,List.length_cons];simp only[lpS];rw[q3];simp only[Int.toNat_natCast,List.drop_left,hM.1];rw[if_neg (by omega)];have q6:lpS (fun l=>Xav e l) ks.length (ks.flatten++r) (u+(a.length:Int)) (m+sm a) M=_:=q5;rw[q6,Xfa,List.length_append];simp only[Prod.mk.injEq,and_true];omega
theorem RA_first:∀(d e:Nat),d≤e→∀a,RA d a→sm a≤1048576→∀r,∃D:Nat,D≤d∧1≤D∧Xav e (a++r)=((a.length:Int),sm a,(D:Int)):=by
 intro d
 induction d with
 |zero=>intro e he a h;exact absurd h id
 |succ d ih=>
  intro e he a h hs r;obtain⟨e,rfl⟩:∃e',e=e'+1:=⟨e-1,by omega⟩;obtain⟨n,h0,⟨h1,rfl⟩|⟨h1,ks,k1,k2,rfl⟩⟩:=h
  ·refine⟨1,by omega,by omega,?_⟩;simp only[List.cons_append,List.nil_append,Xav,if_neg (show¬itm n<0 by omega),if_neg h1,Xcz,sm_nil,List.length_singleton,Int.add_zero];rfl
  ·rw[Xcz]at hs;obtain⟨D,q1,q2⟩:=RA_lp d e (by omega) (ih e (by omega)) ks r 1 (itm n) 0 k2 h0 hs (by omega);refine⟨D+1,by omega,by omega,?_⟩;simp only[List.cons_append,Xav,if_neg (show¬itm n<0 by omega),if_pos h1];have q3:lpS (fun l=>Xav e l) ks.length (ks.flatten++r) 1 (itm n) 0=_:=q2;rw[show(itm n).toNat=ks.length by omega,q3,Xcz,List.length_cons];simp only[Prod.mk.injEq,and_true,true_and];omega
theorem rt_RA{a:List S32}(h:rt a=true):∃D:Nat,D≤16∧RA D a∧(Xc1 0 0 [] 0 a)=((a.length:Int),sm a,(D:Int))∧sm a≤1048576:=by
 unfold rt at h;by_cases g:(a.length:Int)>0
 ·rw[if_pos g]at h;have ht:=eq_of_beq h;have hw:=walk_is a;unfold tk at ht;have han:=Xc9 16 a;rcases first_RA 16 a with e|⟨a',t,D,e1,e2,e3,e4⟩
  ·rw[hw,e]at ht;have:(0:Int)=(a.length:Int):=ht;omega
  ·have h1:(a'.length:Int)=(a.length:Int):=by rw[hw,e4]at ht;exact ht
   have h2:a.length=a'.length+t.length:=by rw[e1,List.length_append]
   obtain rfl:t=[]:=List.eq_nil_of_length_eq_zero (by omega);rw[List.append_nil]at e1;subst e1;refine⟨D,e3,e2,by rw[hw,e4],?_⟩;rcases han with c|c
   ·rw[e4]at c;have:=congrArg Prod.fst c;simp only at this;omega
   ·rw[e4]at c;exact c.2.2.2.1
 ·rw[if_neg g]at h;exact Bool.noConfusion h
theorem RA_walk{d:Nat}{a:List S32}(h:RA d a)(hd:d≤16)(hs:sm a≤1048576)(r:List S32):∃D:Nat,D≤d∧1≤D∧Xc1 0 0 [] 0 (a++r)=((a.length:Int),sm a,(D:Int)):=by rw[walk_is];exact RA_first d 16 hd a h hs r
theorem RA_tk{d:Nat}{a:List S32}(h:RA d a)(hd:d≤16)(hs:sm a≤1048576)(r:List S32):tk (a++r)=(a.length:Int):=by obtain⟨D,_,_,q⟩:=RA_walk h hd hs r;unfold tk;rw[q]
theorem RA_rt{d:Nat}{a:List S32}(h:RA d a)(hd:d≤16)(hs:sm a≤1048576):rt a=true:=by have h1:=RA_tk h hd hs [];rw[List.append_nil]at h1;have h2:=h.ne.2;unfold rt;rw[if_pos (by omega),h1];exact BEq.rfl
def Ok2(n:S32):Prop:=Ok n∧(∀v∈n.f2,In64 v)∧n.f2.length≤1048576∧n.f3.length≤1048576
theorem itm_val(n:S32)(ok:Ok2 n):itm n=if(Sh.cnt n.f1).2=true then(if gdK n.f0 (Sh.cnt n.f1).1 n.f2 n.f3=true then(Sh.cnt n.f1).1 else -1)else -1:=by unfold Ok2 at ok;exact itm_val3 n ⟨ok.1,ok.2.1,by omega,by omega⟩
def Gd(n:S32):Prop:=Ok2 n∧(∀y∈n.f3,OkE y)∧n.f1.length≤30
theorem copy_any(l:List S32)(h:l.length≤1100000)(hf:∀n∈l,Gd n):Xcw.f l=some l:=by unfold Xcw.f;rw[if_pos ⟨by omega,fun x hx=>by have:=hf x hx;unfold Gd Ok2 at this;omega⟩]
theorem rdL_at(b:List (List S32))(m:Nat)(h:m<b.length):Xbo b (m:Int)=b[m]:=by unfold Xbo;rw[List.getD_eq_getElem?_getD,Int.toNat_natCast,List.getElem?_eq_getElem h];rfl
theorem all_map{α β:Type}(f:α→β)(p:β→Bool)(l:List α)(h:∀x∈l,p (f x)=true):(l.map f).all p=true:=by rw[List.all_eq_true];intro y hy;obtain⟨x,hx,rfl⟩:=List.mem_map.1 hy;exact h x hx
theorem wh_map(l:List Int)(hr:∀v∈l,In64 v):(l.map ofD).map (fun y=>(wh y).1)=l:=by
 rw[List.map_map]
 conv=>rhs;rw[←List.map_id l]
 refine List.map_congr_left fun v hv=>?_;show(wh (ofD v)).1=v;rw[wh_of (Xdp v (hr v hv)).2 (hr v hv)]
theorem leaf(n:S32)(g:Gd n)(h:0≤itm n):Sh.cnt n.f1=(itm n,true)∧gdK n.f0 (itm n) n.f2 n.f3=true:=by
 have e:=itm_val n g.1;by_cases c:(Sh.cnt n.f1).2=true
 ·rw[if_pos c]at e;by_cases c2:gdK n.f0 (Sh.cnt n.f1).1 n.f2 n.f3=true
  ·rw[if_pos c2]at e;rw[e];exact⟨Prod.ext rfl c,c2⟩
  ·rw[if_neg c2]at e;omega
 ·rw[if_neg c]at e;omega
theorem Xez{x5 x6 a:Int}{c:List Int}{e:List S35}(h:gd x5 x6 a c e=true):(c.length:Int)=x5∧(e.length:Int)=x6∧c.all (okI a)=true∧e.all dr=true:=by
 unfold gd at h;by_cases c1:(c.length:Int)=x5
 ·rw[if_pos c1]at h;by_cases c2:(e.length:Int)=x6
  ·rw[if_pos c2,Bool.and_eq_true]at h;exact⟨c1,c2,h⟩
  ·rw[if_neg c2]at h;exact Bool.noConfusion h
 ·rw[if_neg c1]at h;exact Bool.noConfusion h
theorem gd_of{x5 x6 a:Int}{c:List Int}{e:List S35}(h1:(c.length:Int)=x5)(h2:(e.length:Int)=x6)(h3:c.all (okI a)=true)(h4:e.all dr=true):gd x5 x6 a c e=true:=by unfold gd;rw[if_pos h1,if_pos h2,h3,h4];rfl
theorem Xec{a x:Int}{c:List Int}{e:List S35}(h:gdK a x c e=true):((a=1∨a=2∨a=3)∧gd x 0 a c e=true)∨(a=4∧gd 0 x a c e=true)∨(a=5∧gd 0 0 a c e=true):=by
 unfold gdK at h;by_cases c1:a=1∨a=2∨a=3
 ·rw[if_pos c1]at h;exact .inl ⟨c1,h⟩
 ·rw[if_neg c1]at h;by_cases c2:a=4
  ·rw[if_pos c2]at h;exact .inr (.inl ⟨c2,h⟩)
  ·rw[if_neg c2]at h;by_cases c3:a=5
   ·rw[if_pos c3]at h;exact .inr (.inr ⟨c3,h⟩)
   ·rw[if_neg c3]at h;exact Bool.noConfusion h
theorem nil_of{α:Type}{l:List α}(h:(l.length:Int)=0):l=[]:=List.eq_nil_of_length_eq_zero (by omega)
theorem ofs_ok(l:List Int)(hr:∀v∈l,In64 v):∀y∈l.map ofD,OkE y:=fun y hy=>by
 obtain⟨v,hv,rfl⟩:=List.mem_map.1 hy;exact(Xdp v (hr v hv)).2.ok (hr v hv)
theorem ofs_dr(l:List Int)(hr:∀v∈l,In64 v):(l.map ofD).all dr=true:=all_map _ _ _ fun v hv=>dr_of (Xdp v (hr v hv)).2 (hr v hv)
theorem ofs_wh(l:List Int)(hr:∀v∈l,In64 v):(l.map ofD).all (fun y=>(wh y).2)=true:=all_map _ _ _ fun v hv=>by rw[wh_of (Xdp v (hr v hv)).2 (hr v hv)]
theorem numS_ok(n:S32)(g:Gd n):(∀y∈Xc5 n,OkE y)∧(Xc5 n).length≤1048576:=by
 have h:=g.1;unfold Ok2 at h;unfold Xc5;by_cases c:n.f0=4
 ·rw[if_pos c];exact⟨g.2.1,by omega⟩
 ·rw[if_neg c];exact⟨ofs_ok _ h.2.1,by rw[List.length_map];omega⟩
theorem numS_leaf(n:S32)(g:Gd n)(h:0≤itm n)(h3:n.f0≠3)(h5:n.f0≠5):((Xc5 n).length:Int)=itm n∧(Xc5 n).all dr=true:=by
 have hg:=g.1;unfold Ok2 at hg;unfold Xc5;rcases Xec (leaf n g h).2 with⟨c,d⟩|⟨c,d⟩|⟨c,d⟩
 ·have q:=Xez d;rw[if_neg (by omega),List.length_map];exact⟨q.1,ofs_dr _ hg.2.1⟩
 ·have q:=Xez d;rw[if_pos c];exact⟨q.2.1,q.2.2.2⟩
 ·exact absurd c h5
noncomputable def nd (s:List Int) (l:List S35):S32:=⟨(nbS s l).1,(nbS s l).2.1,(nbS s l).2.2.1,(nbS s l).2.2.2.1⟩
theorem nbS_iff(s:List Int)(l:List S35):(nbS s l).2.2.2.2=true→(Sh.cnt s).2=true∧(Sh.cnt s).1=(l.length:Int)∧l.all dr=true:=by
 intro h;unfold nbS at h;by_cases c:(Sh.cnt s).2=true∧(Sh.cnt s).1=(l.length:Int)∧l.all dr=true
 ·exact c
 ·rw[if_neg c]at h;exact Bool.noConfusion h
theorem nd_good(s:List Int)(l:List S35)(hs:s.length≤30)(hl:l.length≤1048576)(ok:∀y∈l,OkE y)(hc:Sh.cnt s=((l.length:Int),true))(hd:l.all dr=true):
    (nbS s l).2.2.2.2=true∧(nd s l).f1=s∧(nd s l).f0≠3∧(nd s l).f0≠5∧Gd (nd s l)∧itm (nd s l)=(l.length:Int)∧nbS s (Xc5 (nd s l))=nbS s l:=by
  have hcnd:(Sh.cnt s).2=true∧(Sh.cnt s).1=(l.length:Int)∧l.all dr=true:=⟨by rw[hc],by rw[hc],hd⟩;by_cases hw:l.all (fun y=>(wh y).2)=true
  · have hr:∀v∈l.map (fun y=>(wh y).1),In64 v:=fun v hv=>by
      obtain⟨y,hy,rfl⟩:=List.mem_map.1 hv;exact(wh_ev y (ok y hy)).2
    have hlen:(l.map (fun y=>(wh y).1)).length=l.length:=List.length_map _;have e:nbS s l=((if 0<l.length∧(l.map (fun y=>(wh y).1)).all bit=true then 1 else 2),s,l.map (fun y=>(wh y).1),[],true):=by unfold nbS;rw[if_pos hcnd,if_pos hw]
    have en:nd s l=⟨if 0<l.length∧(l.map (fun y=>(wh y).1)).all bit=true then 1 else 2,s,l.map (fun y=>(wh y).1),[]⟩:=by unfold nd;rw[e]
    generalize hi:l.map (fun y=>(wh y).1)=is at hr hlen e en;obtain⟨kd,hk,hk2⟩:∃kd:Int,(if 0<l.length∧is.all bit=true then(1:Int)else 2)=kd∧((kd=1∧is.all bit=true)∨kd=2):=by
      by_cases c:0<l.length∧is.all bit=true
      · exact⟨1,if_pos c,.inl ⟨rfl,c.2⟩⟩
      · exact⟨2,if_neg c,.inr rfl⟩
    have hn:Xc5 (nd s l)=is.map ofD:=by rw[en];unfold Xc5;rw[if_neg (show¬(if 0<l.length∧is.all bit=true then(1:Int)else 2)=4 by rw[hk];omega)]
    have hg:Gd (nd s l):=by rw[en];exact⟨⟨fun y hy=>by simp at hy,hr,by show is.length≤1048576;omega,by show 0≤1048576;omega⟩,by simp,hs⟩
    refine⟨by rw[e],by rw[en],by rw[en];show(if 0<l.length∧is.all bit=true then(1:Int)else 2)≠3;rw[hk];omega,by rw[en];show(if 0<l.length∧is.all bit=true then(1:Int)else 2)≠5;rw[hk];omega,hg,?_,?_⟩
    · rw[itm_val _ hg.1,en];show(if(Sh.cnt s).2=true then _ else _)=_;rw[if_pos hcnd.1,if_pos,hcnd.2.1];show gdK (if 0<l.length∧is.all bit=true then(1:Int)else 2) (Sh.cnt s).1 is []=true;rw[hk,hcnd.2.1];unfold gdK;rw[if_pos (by omega)];refine gd_of (by omega) rfl ?_ rfl;rcases hk2 with⟨c1,c2⟩|c1
      · rw[c1];exact c2
      · rw[c1,List.all_eq_true];intro v hv;rfl
    · rw[hn,e,hk];unfold nbS;rw[if_pos ⟨hcnd.1,by rw[List.length_map,hlen];exact hcnd.2.1,ofs_dr is hr⟩,if_pos (ofs_wh is hr),wh_map is hr,List.length_map,hlen,hk]
  · have e:nbS s l=(4,s,[],l,true):=by unfold nbS;rw[if_pos hcnd,if_neg hw]
    have en:nd s l=⟨4,s,[],l⟩:=by unfold nd;rw[e]
    have hg:Gd (nd s l):=by rw[en];exact⟨⟨fun y hy=>(ok y hy).d,by simp,by show 0≤1048576;omega,hl⟩,ok,hs⟩
    refine⟨by rw[e],by rw[en],by rw[en];show(4:Int)≠3;decide,by rw[en];show(4:Int)≠5;decide,hg,?_,?_⟩
    · rw[itm_val _ hg.1,en];show(if(Sh.cnt s).2=true then _ else _)=_;rw[if_pos hcnd.1,if_pos,hcnd.2.1];show gdK 4 (Sh.cnt s).1 [] l=true;rw[hcnd.2.1];unfold gdK;rw[if_neg (by omega),if_pos rfl];exact gd_of rfl rfl rfl hd
    · rw[en];unfold Xc5;rw[if_pos rfl]
theorem nd_form(s:List Int)(l:List S35)(hs:s.length≤30)(hl:l.length≤1048576)(ok:∀y∈l,OkE y)(hc:Sh.cnt s=((l.length:Int),true))(hd:l.all dr=true):Ev (fun k=>tight_form.f k [nd s l]) [nd s l]:=by obtain⟨q1,q2,q3,q4,q5,q6,q7⟩:=nd_good s l hs hl ok hc hd;have h:=q5.1;unfold Ok2 at h;have:=form_one (nd s l) q3 q4 h.2.1 q5.2.1 (by rw[q2];omega) (by omega) (by omega);rw[q2,q7]at this;exact this
theorem form_char(l:List S32)(h:l.length≤1100000)(hp:0<l.length)(h3:(Xa l 0).f0=3)(hf:∀n∈l,Gd n):Ev (fun k=>tight_form.f k l) l:=by refine Ev.succ ?_;simp only[tight_form.f,if_pos (show(0:Int)<(l.length:Int) by omega),if_pos h3,copy_any l h hf,Option.bind_some];exact Ev.const _
noncomputable def hd0 (k:List S32):S32:=Xa k 0
theorem Xey(n:S32)(r:List S32):hd0 (n::r)=n:=rfl
noncomputable def Xd6 (k:List S32):Bool:=decide (0<(hd0 k).f1.length)||(hd0 k).f0==5
noncomputable def jch (k:List S32):List Int:=if(hd0 k).f0=3 then(hd0 k).f2 else[]
noncomputable def jal (k:List S32):List S35:=if(hd0 k).f0=3 then[]else Xc5 (hd0 k)
noncomputable def jend (s:List Int) (m:Nat) (C:List Int) (A:List S35):Int×List Int×List Int×List S35×Bool:=if C.length=m∧0<m then(3,s,C,[],true)else nbS s A
noncomputable def jnS (s:List Int) (ks:List (List S32)):Int×List Int×List Int×List S35×Bool:=if ks.any Xd6=true then(0,[],[],[],false)else jend s ks.length (ks.map jch).flatten (ks.map jal).flatten
theorem joined_loop(s:List Int)(ks:List (List S32))(hs:s.length≤30)(hl:ks.length≤1100000)(hk:∀k∈ks,1≤k.length∧Gd (hd0 k)):∀d i(C:List Int)(A:List S35),i≤ks.length→ks.length-i=d→C.length≤1048576*i→A.length≤1048576*i→(∀y∈A,OkE y)→
  Ev (fun k=>Xad.l0 k s ks A ks (ks.length:Int) (i:Int) 3 s C) (if(ks.drop i).any Xd6=true then(0,[],[],[],false)else jend s ks.length (C++((ks.drop i).map jch).flatten) (A++((ks.drop i).map jal).flatten)):=by
 intro d
 induction d with
 |zero=>
  intro i C A h1 h2 h3 h4 h5;rw[List.drop_eq_nil_of_le (by omega)];simp only[List.any_nil,Bool.false_eq_true,if_false,List.map_nil,List.flatten_nil,List.append_nil];have hn:=numbers_ev s A h5 (by omega) (by omega);refine Ev.succ ?_;simp only[Xad.l0,if_neg (show¬((i:Int)<(ks.length:Int)) by omega)];unfold jend;by_cases c1:(C.length:Int)=(ks.length:Int)
  ·simp only[if_pos c1];by_cases c2:(ks.length:Int)>0
   ·simp only[if_pos c2];rw[if_pos ⟨by omega,by omega⟩];exact Ev.const _
   ·simp only[if_neg c2];rw[if_neg (fun h=>c2 (by omega))];exact Ev.bind hn (Ev.const _)
  ·simp only[if_neg c1];rw[if_neg (fun h=>c1 (by omega))];exact Ev.bind hn (Ev.const _)
 |succ d ih=>
  intro i C A h1 h2 h3 h4 h5;have hi:i<ks.length:=by omega
  obtain⟨m1,m2⟩:=hk ks[i] (List.getElem_mem _);have hg:=m2.1;unfold Ok2 at hg;rw[List.drop_eq_getElem_cons hi,List.any_cons,List.map_cons,List.map_cons,List.flatten_cons,List.flatten_cons];refine Ev.succ ?_;simp only[Xad.l0,if_pos (show((i:Int)<(ks.length:Int)) by omega),if_pos (show(0:Int)≤(i:Int) by omega),rdL_at ks i hi,if_pos (show(0:Int)<((ks[i]).length:Int) by omega)];rw[show Xa (ks[i]) 0=hd0 ks[i]from rfl];have hbad:Xd6 ks[i]=true→Ev (fun k=>Xad.j1 k s ks A ks (ks.length:Int) (i:Int) true 3 s C (hd0 ks[i]).f0 (hd0 ks[i]).f1 (hd0 ks[i]).f2 (hd0 ks[i]).f3) (if(Xd6 ks[i]||(ks.drop (i+1)).any Xd6)=true then(0,[],[],[],false)else jend s ks.length (C++(jch ks[i]++((ks.drop (i+1)).map jch).flatten)) (A++(jal ks[i]++((ks.drop (i+1)).map jal).flatten))):=by intro hb;rw[hb,Bool.true_or,if_pos rfl];exact Ev.succ (by simp only[Xad.j1,if_true];exact Ev.const _)
  by_cases c1:(((hd0 ks[i]).f1.length:Nat):Int)>0
  ·simp only[if_pos c1];exact hbad (by unfold Xd6;rw[decide_eq_true (by omega)];rfl)
  ·simp only[if_neg c1];by_cases c2:(hd0 ks[i]).f0=5
   ·have hb:((hd0 ks[i]).f0==5)=true:=beq_iff_eq.mpr c2;rw[hb];exact hbad (by unfold Xd6;rw[hb,Bool.or_true])
   ·have hb:((hd0 ks[i]).f0==5)=false:=beq_eq_false_iff_ne.mpr c2;have hb2:Xd6 ks[i]=false:=by unfold Xd6;rw[hb,Bool.or_false];exact decide_eq_false (by omega)
    rw[hb,hb2,Bool.false_or];refine Ev.succ ?_;simp only[Xad.j1,Bool.false_eq_true,if_false,ix hi (show ks.length≤9223372036854775807 by omega)];by_cases c3:(hd0 ks[i]).f0=3
    ·have e1:jch ks[i]=(hd0 ks[i]).f2:=if_pos c3;have e2:jal ks[i]=[]:=if_pos c3;rw[e1,e2,List.nil_append,←List.append_assoc];simp only[if_pos c3,if_pos (show C.length+(hd0 ks[i]).f2.length<17592186044416 by omega)];exact ih (i+1) (C++(hd0 ks[i]).f2) A (by omega) (by omega) (by rw[List.length_append];omega) (by omega) h5
    ·have e1:jch ks[i]=[]:=if_neg c3;have e2:jal ks[i]=Xc5 (hd0 ks[i]):=if_neg c3;have hn:=numS_ok (hd0 ks[i]) m2;rw[e1,e2,List.nil_append,←List.append_assoc];simp only[if_neg c3];refine Ev.bind (nums_ev (hd0 ks[i]) hg.2.1 (by omega)) ?_;simp only[if_pos (show A.length+(Xc5 (hd0 ks[i])).length<8796093022208 by omega)];exact ih (i+1) C (A++Xc5 (hd0 ks[i])) (by omega) (by omega) (by omega) (by rw[List.length_append];omega) (fun y hy=>(List.mem_append.1 hy).elim (h5 y) (hn.1 y))
theorem joined_ev(s:List Int)(ks:List (List S32))(hs:s.length≤30)(hl:ks.length≤1100000)(hk:∀k∈ks,1≤k.length∧Gd (hd0 k)):Ev (fun k=>Xad.f k s ks) (jnS s ks):=by have:=joined_loop s ks hs hl hk ks.length 0 [] [] (by omega) (by omega) (by simp) (by simp) (by simp);rw[List.drop_zero,List.nil_append,List.nil_append]at this;simp only[Xad.f,Xam.f,Option.bind_some,List.length_nil,Nat.zero_add,List.nil_append,if_pos (show s.length<17592186044416 by omega)];exact this
theorem cat1(ks:List (List S32))(hl:ks.length≤1100000)(hf:ks.flatten.length≤1100000):∀d i(x:List S32),i≤ks.length→ks.length-i=d→x.length+(ks.drop i).flatten.length≤1100000→Ev (fun k=>Xap.l1 k x ks (ks.length:Int) (i:Int)) (x++(ks.drop i).flatten):=by
 intro d
 induction d with
 |zero=> intro i x h1 h2 h3;rw[List.drop_eq_nil_of_le (show ks.length≤i by omega),List.flatten_nil,List.append_nil];refine Ev.succ ?_;simp only[Xap.l1,if_neg (show¬((i:Int)<(ks.length:Int)) by omega)];exact Ev.const _
 |succ d ih=>
  intro i x h1 h2 h3;have hi:i<ks.length:=by omega
  rw[List.drop_eq_getElem_cons hi,List.flatten_cons]at h3⊢;rw[List.length_append]at h3;refine Ev.succ ?_;simp only[Xap.l1,if_pos (show((i:Int)<(ks.length:Int)) by omega),if_pos (show(0:Int)≤(i:Int) by omega),rdL_at ks i hi,ix hi (by omega),if_pos (show x.length+ks[i].length<1759218604441 by omega)];rw[←List.append_assoc];exact ih (i+1) (x++ks[i]) (by omega) (by omega) (by rw[List.length_append];omega)
theorem cat0(ks:List (List S32))(hl:ks.length≤1100000)(hf:ks.flatten.length≤1100000):∀d i(x:Int),i≤ks.length→ks.length-i=d→0≤x→x+((ks.drop i).flatten.length:Int)≤1100000→Ev (fun k=>Xap.l0 k ks x ks (ks.length:Int) (i:Int)) ks.flatten:=by
 intro d
 induction d with
 |zero=> intro i x h1 h2 h3 h4;refine Ev.succ ?_;simp only[Xap.l0,if_neg (show¬((i:Int)<(ks.length:Int)) by omega),Xdi.f,if_pos (show 0≤x∧x.toNat*80≤140737488355328 by omega)];refine Ev.bind (Ev.const _) ?_;have:=cat1 ks hl hf ks.length 0 [] (by omega) (by omega) (by simp only[List.length_nil,List.drop_zero];omega);rw[List.nil_append,List.drop_zero]at this;exact this
 |succ d ih=>
  intro i x h1 h2 h3 h4;have hi:i<ks.length:=by omega
  rw[List.drop_eq_getElem_cons hi,List.flatten_cons,List.length_append]at h4;have hw:wrap64 (x+(ks[i].length:Int))=x+(ks[i].length:Int):=w64 (by omega) (by omega);refine Ev.succ ?_;simp only[Xap.l0,if_pos (show((i:Int)<(ks.length:Int)) by omega),if_pos (show(0:Int)≤(i:Int) by omega),rdL_at ks i hi,ix hi (by omega),hw,if_neg (show¬(x+(ks[i].length:Int)<0) by omega)];exact ih (i+1) _ (by omega) (by omega) (by omega) (by omega)
theorem cat_ev(ks:List (List S32))(hl:ks.length≤1100000)(hf:ks.flatten.length≤1100000):Ev (fun k=>Xap.f k ks) ks.flatten:=by simp only[Xap.f];exact cat0 ks hl hf ks.length 0 0 (by omega) (by omega) (by omega) (by rw[List.drop_zero];omega)
noncomputable def res (s:List Int) (ks:List (List S32)):List S32:=if(jnS s ks).2.2.2.2=true then[⟨(jnS s ks).1,(jnS s ks).2.1,(jnS s ks).2.2.1,(jnS s ks).2.2.2.1⟩]else⟨5,s,[],[]⟩::ks.flatten
theorem formk_loop(n0:Int)(s n2:List Int)(n3:List S35)(ks ks':List (List S32))(hs:s.length≤30)(he:ks.length=ks'.length)(hl:ks'.length≤1100000)(hf:ks'.flatten.length≤1095000)(hk:∀k∈ks',1≤k.length∧Gd (hd0 k))
  (hev:∀i(h:i<ks.length)(h':i<ks'.length),Ev (fun k=>tight_form.f k ks[i]) ks'[i]):∀d i,i≤ks.length→ks.length-i=d→Ev (fun k=>tight_form.l0 k (ks'.take i++ks.drop i) (ks.length:Int) (i:Int) n0 s n2 n3) (res s ks'):=by
 intro d
 induction d with
 |zero=>
  intro i h1 h2;rw[List.drop_eq_nil_of_le (by omega),List.append_nil,List.take_of_length_le (by omega)];refine Ev.succ ?_;simp only[tight_form.l0,if_neg (show¬((i:Int)<(ks.length:Int)) by omega)];refine Ev.bind (joined_ev s ks' hs hl hk) ?_;unfold res;by_cases c:(jnS s ks').2.2.2.2=true
  ·simp only[if_pos c];exact Ev.const _
  ·simp only[if_neg c,Xam.f,Option.bind_some,List.length_nil,Nat.zero_add,List.nil_append,if_pos (show s.length<17592186044416 by omega)];refine Ev.bind (cat_ev ks' hl (by omega)) ?_;simp only[List.length_cons,List.length_nil,if_pos (show 0+1+ks'.flatten.length<1759218604441 by omega),List.cons_append,List.nil_append];exact Ev.const _
 |succ d ih=>
  intro i h1 h2;have hi:i<ks.length:=by omega
  have hi':i<ks'.length:=by omega
  have htl:(ks'.take i).length=i:=by rw[List.length_take];omega
  have hlen:(ks'.take i++ks.drop i).length=ks.length:=by rw[List.length_append,htl,List.length_drop];omega
  have hrd:Xbo (ks'.take i++ks.drop i) (i:Int)=ks[i]:=by rw[rdL_at _ i (by omega),List.getElem_append_right (by omega)];simp only[htl,Nat.sub_self,List.getElem_drop,Nat.add_zero]
  have hset:(ks'.take i++ks.drop i).set i ks'[i]=ks'.take (i+1)++ks.drop (i+1):=by rw[List.set_append_right _ _ (by omega),htl,Nat.sub_self,List.drop_eq_getElem_cons hi,List.set_cons_zero,List.take_succ_eq_append_getElem hi',List.append_assoc,List.singleton_append]
  refine Ev.succ ?_;simp only[tight_form.l0,if_pos (show((i:Int)<(ks.length:Int)) by omega),if_pos (show(0:Int)≤(i:Int) by omega),hlen,hrd,Int.toNat_natCast,ix hi (show ks.length≤9223372036854775807 by omega)];refine Ev.bind (hev i hi hi') ?_;rw[hset];exact ih (i+1) (by omega) (by omega)
theorem kidl_ev(d:Nat)(hd:d≤16):∀(ks acc:List (List S32)),(∀k∈ks,RA d k)→sm ks.flatten≤1048576→(∀n∈ks.flatten,Gd n)→ks.flatten.length≤1100000→acc.length+ks.length≤2200000→Ev (fun k=>array_Kids.l0 k ks.flatten acc) (acc++ks):=by
 intro ks
 induction ks with
 |nil=> intro acc h1 h2 h3 h4 h5;refine Ev.succ ?_;simp only[array_Kids.l0,List.flatten_nil,List.length_nil,if_neg (show¬(((0:Nat):Int)>0) by decide),List.append_nil];exact Ev.const _
 |cons a ks ih=> intro acc h1 h2 h3 h4 h5;have ha:=h1 a (List.mem_cons_self ..);have hks:∀k∈ks,RA d k:=fun k hk=>h1 k (List.mem_cons_of_mem _ hk);rw[List.flatten_cons]at h2 h3 h4⊢;rw[Xfa]at h2;rw[List.length_append]at h4;rw[List.length_cons]at h5;have p1:=Xe9 ha.node;have p2:=Xe9 (RA.kids hks);have hal:=ha.ne;have ht:=take_ev (a++ks.flatten) (fun n hn=>(h3 n hn).1.1) (by rw[List.length_append];omega);rw[RA_tk ha hd (by omega) ks.flatten]at ht;refine Ev.succ ?_;simp only[array_Kids.l0,List.length_append,if_pos (show(((a.length+ks.flatten.length:Nat):Int)>0) by omega)];refine Ev.bind ht ?_;simp only[if_pos (show(0:Int)≤(a.length:Int) by omega),if_pos (show(a.length:Int)≤((a.length+ks.flatten.length:Nat):Int) by omega),Int.toNat_natCast,List.take_left,List.drop_left];rw[copy_any a (by omega) (fun n hn=>h3 n (List.mem_append_left _ hn))];refine Ev.bind (Ev.const _) ?_;simp only[if_pos (show acc.length<5864062014805 by omega)];have:=ih (acc++[a]) hks (by omega) (fun n hn=>h3 n (List.mem_append_right _ hn)) (by omega) (by rw[List.length_append,List.length_singleton];omega);rw[List.append_assoc]at this;exact this
theorem kids_ev(d:Nat)(hd:d≤15)(n:S32)(ks:List (List S32))(h5:n.f0=5)(hi:itm n=(ks.length:Int))(hk:∀k∈ks,RA d k)(hs:sm (n::ks.flatten)≤1048576)(hg:∀m∈n::ks.flatten,Gd m)(hl:(n::ks.flatten).length≤1100000)(hl2:ks.length≤1100000):Ev (fun k=>array_Kids.f k (n::ks.flatten)) ks:=by have hra:RA (d+1) (n::ks.flatten):=⟨n,by omega,.inr ⟨h5,ks,hi,hk,rfl⟩⟩;have hr:=right_ev (n::ks.flatten) (fun m hm=>(hg m hm).1.1) (by omega);rw[RA_rt hra (by omega) hs]at hr;rw[Xcz]at hs;simp only[List.length_cons]at hl;simp only[array_Kids.f];refine Ev.bind hr ?_;simp only[if_true,List.length_cons,if_pos (show(0:Int)<((ks.flatten.length+1:Nat):Int) by omega),show Xa (n::ks.flatten) 0=n from rfl,h5];refine Ev.succ ?_;simp only[array_Kids.j0,show((5:Int) != 5)=false from rfl,Bool.false_eq_true,if_false,List.length_cons,if_pos (show(1:Int)≤((ks.flatten.length+1:Nat):Int) by omega),List.drop_succ_cons,List.drop_zero];exact kidl_ev d (by omega) ks [] hk (by omega) (fun m hm=>hg m (List.mem_cons_of_mem _ hm)) (by omega) (by simp only[List.length_nil];omega)
theorem form_nest(d:Nat)(hd:d≤15)(n:S32)(ks ks':List (List S32))(h5:n.f0=5)(hi:itm n=(ks.length:Int))(hk:∀k∈ks,RA d k)(hs:sm (n::ks.flatten)≤1048576)(hg:∀m∈n::ks.flatten,Gd m)(hl:(n::ks.flatten).length≤1090000)(hl2:ks.length≤1090000)
  (he:ks.length=ks'.length)(hf:ks'.flatten.length≤1095000)(hk':∀k∈ks',1≤k.length∧Gd (hd0 k))(hev:∀i(h:i<ks.length)(h':i<ks'.length),Ev (fun k=>tight_form.f k ks[i]) ks'[i]):Ev (fun k=>tight_form.f k (n::ks.flatten)) (res n.f1 ks'):=by
 refine Ev.succ ?_;simp only[tight_form.f,List.length_cons,if_pos (show(0:Int)<((ks.flatten.length+1:Nat):Int) by omega),show Xa (n::ks.flatten) 0=n from rfl];simp only[if_neg (show¬n.f0=3 by omega),if_pos h5];refine Ev.bind (kids_ev d hd n ks h5 hi hk hs hg (by omega) (by omega)) ?_;have:=formk_loop n.f0 n.f1 n.f2 n.f3 ks ks' (hg n (List.mem_cons_self ..)).2.2 he (by omega) hf hk' hev ks.length 0 (by omega) (by omega);rw[List.take_zero,List.nil_append,List.drop_zero]at this;exact this
def FP(d:Nat)(a b:List S32):Prop:=Ev (fun k=>tight_form.f k a) b∧RA d b∧(∀n∈b,Gd n)∧b.length≤a.length∧sm b≤sm a∧Ev (fun k=>tight_form.f k b) b∧(hd0 b).f1=(hd0 a).f1
noncomputable def fm (a:List S32):List S32:=open Classical in if h:∃b,Ev (fun k=>tight_form.f k a) b then h.choose else[]
theorem fm_of{a b:List S32}(h:Ev (fun k=>tight_form.f k a) b):fm a=b:=by have e:∃b,Ev (fun k=>tight_form.f k a) b:=⟨b,h⟩;unfold fm;rw[dif_pos e];exact Ev.uniq e.choose_spec h
theorem len_mem{α:Type}{ks:List (List α)}{k:List α}(h:k∈ks):k.length≤ks.flatten.length:=by
 induction ks with
 |nil=>exact absurd h (List.not_mem_nil)
 |cons a ks ih=>
  rw[List.flatten_cons,List.length_append];rcases List.mem_cons.1 h with rfl|h
  ·omega
  ·have:=ih h;omega
theorem sm_mem{ks:List (List S32)}{k:List S32}(hp:∀n∈ks.flatten,0≤itm n)(h:k∈ks):sm k≤sm ks.flatten:=by
 induction ks with
 |nil=>exact absurd h (List.not_mem_nil)
 |cons a ks ih=>
  rw[List.flatten_cons]at hp;have p1:=Xe9 fun n hn=>hp n (List.mem_append_left _ hn);have p2:=Xe9 fun n hn=>hp n (List.mem_append_right _ hn);rw[List.flatten_cons,Xfa];rcases List.mem_cons.1 h with rfl|h
  ·omega
  ·have:=ih (fun n hn=>hp n (List.mem_append_right _ hn)) h;omega
theorem len_count{α:Type}{ks:List (List α)}(h:∀k∈ks,1≤k.length):ks.length≤ks.flatten.length:=by
 induction ks with
 |nil=>simp
 |cons a ks ih=> have h1:=h a (List.mem_cons_self ..);have h2:=ih fun k hk=>h k (List.mem_cons_of_mem _ hk);rw[List.flatten_cons,List.length_append,List.length_cons];omega
theorem flat_map_le{ks:List (List S32)}{f:List S32→List S32}(h:∀k∈ks,(f k).length≤k.length∧sm (f k)≤sm k):(ks.map f).flatten.length≤ks.flatten.length∧sm (ks.map f).flatten≤sm ks.flatten:=by
 induction ks with
 |nil=>simp
 |cons a ks ih=> have h1:=h a (List.mem_cons_self ..);have h2:=ih fun k hk=>h k (List.mem_cons_of_mem _ hk);rw[List.map_cons,List.flatten_cons,List.flatten_cons,List.length_append,List.length_append,Xfa,Xfa];omega
theorem cnt_nil:Sh.cnt []=(1,true):=by decide
theorem one_kid{d:Nat}{k:List S32}(h:RA d k)(hg:∀n∈k,Gd n)(hb:Xd6 k=false):∃m,k=[m]∧m.f0≠5∧m.f1=[]∧itm m=1∧Gd m∧(m.f0=3→m.f2.length=1∧m.f3=[]∧m.f2.all (okI 3)=true∧(∀v∈m.f2,In64 v))∧(m.f0≠3→(Xc5 m).length=1∧(Xc5 m).all dr=true):=by
 unfold Xd6 at hb;rw[Bool.or_eq_false_iff]at hb;cases d with
 |zero=>exact absurd h id
 |succ d=>
  obtain⟨m,h0,⟨h1,rfl⟩|⟨h1,ks,k1,k2,rfl⟩⟩:=h
  ·have g:=hg m (List.mem_singleton.2 rfl);rw[Xey]at hb;have hf1:m.f1=[]:=List.eq_nil_of_length_eq_zero (by have:=of_decide_eq_false hb.1;omega);have hl:=leaf m g h0;have hi:itm m=1:=by have:=hl.1;rw[hf1,cnt_nil]at this;exact(congrArg Prod.fst this).symm
   refine⟨m,rfl,h1,hf1,hi,g,fun h3=>?_,fun h3=>?_⟩
   ·rcases Xec hl.2 with⟨c,q⟩|⟨c,q⟩|⟨c,q⟩
    ·have:=Xez q;rw[h3]at this;exact⟨by omega,nil_of this.2.1,this.2.2.1,g.1.2.1⟩
    ·omega
    ·omega
   ·have:=numS_leaf m g h0 h3 h1;exact⟨by omega,this.2⟩
  ·rw[Xey,h1]at hb;exact absurd hb.2 (by decide)
theorem join_kids{d:Nat}{ks:List (List S32)}(h:∀k∈ks,RA d k)(hg:∀k∈ks,∀n∈k,Gd n)(hb:ks.any Xd6=false):
  (ks.map jch).flatten.length+(ks.map jal).flatten.length=ks.length∧(ks.map jch).flatten.all (okI 3)=true∧(∀v∈(ks.map jch).flatten,In64 v)∧(∀y∈(ks.map jal).flatten,OkE y):=by
 induction ks with
 |nil=>simp
 |cons k ks ih=>
  rw[List.any_cons,Bool.or_eq_false_iff]at hb;obtain⟨q1,q2,q3,q4⟩:=ih (fun x hx=>h x (List.mem_cons_of_mem _ hx)) (fun x hx=>hg x (List.mem_cons_of_mem _ hx)) hb.2;obtain⟨m,p1,p2,p3,p4,p5,p6,p7⟩:=one_kid (h k (List.mem_cons_self ..)) (hg k (List.mem_cons_self ..)) hb.1;have hm:hd0 k=m:=by rw[p1];rfl
  rw[List.map_cons,List.map_cons,List.flatten_cons,List.flatten_cons,List.length_append,List.length_append,List.length_cons,List.all_append];by_cases c:m.f0=3
  ·have e1:jch k=m.f2:=by unfold jch;rw[hm,if_pos c]
   have e2:jal k=[]:=by unfold jal;rw[hm,if_pos c]
   obtain⟨r1,r2,r3,r4⟩:=p6 c;rw[e1,e2,r3,q2];exact⟨by simp only[List.length_nil];omega,rfl,fun v hv=>(List.mem_append.1 hv).elim (r4 v) (q3 v),fun y hy=>by rw[List.nil_append]at hy;exact q4 y hy⟩
  ·have e1:jch k=[]:=by unfold jch;rw[hm,if_neg c]
   have e2:jal k=Xc5 m:=by unfold jal;rw[hm,if_neg c]
   obtain⟨r1,r2⟩:=p7 c;rw[e1,e2,q2];exact⟨by simp only[List.length_nil];omega,rfl,fun v hv=>by rw[List.nil_append]at hv;exact q3 v hv,fun y hy=>(List.mem_append.1 hy).elim ((numS_ok m p5).1 y) (q4 y)⟩
theorem res_one(d:Nat)(s:List Int)(ks:List (List S32))(hs:s.length≤30)(hl:ks.length≤1048576)(hc:Sh.cnt s=((ks.length:Int),true))(h:∀k∈ks,RA d k)(hg:∀k∈ks,∀n∈k,Gd n)(hj:(jnS s ks).2.2.2.2=true):
  ∃m,res s ks=[m]∧m.f0≠5∧m.f1=s∧itm m=(ks.length:Int)∧Gd m∧Ev (fun k=>tight_form.f k [m]) [m]:=by
 unfold res;rw[if_pos hj];unfold jnS at hj⊢;cases hb:ks.any Xd6 with
 |true=>rw[hb]at hj;exact Bool.noConfusion hj
 |false=>
  rw[hb]at hj;rw[if_neg (by simp)]at hj⊢;obtain⟨q1,q2,q3,q4⟩:=join_kids h hg hb;generalize (ks.map jch).flatten=C at hj q1 q2 q3⊢;generalize (ks.map jal).flatten=A at hj q1 q4⊢;unfold jend at hj⊢;by_cases c:C.length=ks.length∧0<ks.length
  ·rw[if_pos c];have g:Gd (⟨3,s,C,[]⟩:S32):=⟨⟨fun y hy=>by simp at hy,q3,by show C.length≤1048576;omega,by show 0≤1048576;omega⟩,by simp,hs⟩;refine⟨⟨3,s,C,[]⟩,rfl,by show(3:Int)≠5;decide,rfl,?_,g,?_⟩
   ·rw[itm_val _ g.1];show(if(Sh.cnt s).2=true then(if gdK 3 (Sh.cnt s).1 C []=true then(Sh.cnt s).1 else -1)else -1)=_;rw[hc,if_pos rfl,if_pos];unfold gdK;rw[if_pos (.inr (.inr rfl))];exact gd_of (by omega) rfl q2 rfl
   ·exact form_char _ (by simp) (by simp) rfl (fun n hn=>by rw[List.mem_singleton.1 hn];exact g)
  ·rw[if_neg c]at hj⊢;obtain⟨w1,w2,w3⟩:=nbS_iff s A hj;have hcA:Sh.cnt s=((A.length:Int),true):=Prod.ext w2 w1;have hlA:A.length≤1048576:=by rw[hc]at w2;simp only at w2;omega
   obtain⟨n1,n2,n3,n4,n5,n6,n7⟩:=nd_good s A hs hlA q4 hcA w3;refine⟨nd s A,rfl,n4,n2,?_,n5,nd_form s A hs hlA q4 hcA w3⟩;rw[n6,←w2,hc]
theorem fm_leaf(n:S32)(g:Gd n)(h0:0≤itm n)(h3:n.f0≠3)(h5:n.f0≠5):Ev (fun k=>tight_form.f k [n]) [nd n.f1 (Xc5 n)]∧Sh.cnt n.f1=(((Xc5 n).length:Int),true)∧(Xc5 n).all dr=true:=by have hg:=g.1;unfold Ok2 at hg;have hgs:=g.2.2;have hn:=numS_leaf n g h0 h3 h5;exact⟨form_one n h3 h5 hg.2.1 g.2.1 (by omega) (by omega) (by omega),by rw[hn.1];exact(leaf n g h0).1,hn.2⟩
theorem nest_node(n:S32)(g:Gd n)(h0:0≤itm n)(h5:n.f0=5):n=⟨5,n.f1,[],[]⟩:=by
 have hl:=leaf n g h0;rw[h5]at hl;rcases Xec hl.2 with⟨c,q⟩|⟨c,q⟩|⟨c,q⟩
 ·omega
 ·omega
 ·have:=Xez q;cases n with
  |mk a b c e=> simp only at h5 this;rw[h5,nil_of this.1,nil_of this.2.1]
theorem fm_main:∀d,d≤16→∀a,RA d a→(∀n∈a,Gd n)→a.length≤1048577→sm a≤1048576→FP d a (fm a):=by
 intro d
 induction d with
 |zero=>intro hd a h;exact absurd h id
 |succ d ih=>
  intro hd a h hg hl hs
  suffices hsuf:∃b,FP (d+1) a b by obtain⟨b,hb⟩:=hsuf;rw[fm_of hb.1];exact hb
  obtain⟨n,h0,⟨h1,rfl⟩|⟨h1,ks,k1,k2,rfl⟩⟩:=h
  ·have g:=hg n (List.mem_singleton.2 rfl);by_cases h3:n.f0=3
   ·have hf:=form_char [n] (by simp) (by simp) h3 hg;exact⟨[n],hf,⟨n,h0,.inl ⟨h1,rfl⟩⟩,hg,Nat.le_refl _,Int.le_refl _,hf,rfl⟩
   ·obtain⟨f1,f2,f3⟩:=fm_leaf n g h0 h3 h1;have hk:=numS_ok n g;obtain⟨n1,n2,n3,n4,n5,n6,n7⟩:=nd_good n.f1 (Xc5 n) g.2.2 hk.2 hk.1 f2 f3;refine⟨[nd n.f1 (Xc5 n)],f1,⟨_,by omega,.inl ⟨n4,rfl⟩⟩,fun m hm=>by rw[List.mem_singleton.1 hm];exact n5,by simp,?_,nd_form _ _ g.2.2 hk.2 hk.1 f2 f3,n2⟩;have:=(leaf n g h0).1;rw[f2]at this;have:=congrArg Prod.fst this;simp only at this;rw[Xcz,Xcz,sm_nil,n6];omega
  ·have g:=hg n (List.mem_cons_self ..);have hgk:∀k∈ks,∀m∈k,Gd m:=fun k hk m hm=>hg m (List.mem_cons_of_mem _ (List.mem_flatten.2 ⟨k,hk,hm⟩));simp only[List.length_cons]at hl;have hs':=hs;rw[Xcz]at hs';have hne:∀k∈ks,1≤k.length:=fun k hk=>(k2 k hk).ne.2;have hcount:=len_count hne;have IH:∀k∈ks,FP d k (fm k):=fun k hk=>ih (by omega) k (k2 k hk) (hgk k hk) (by have:=len_mem hk;omega) (by have:=sm_mem (RA.kids k2) hk;omega);have hK:∀k'∈ks.map fm,RA d k'∧(∀m∈k',Gd m)∧Ev (fun k=>tight_form.f k k') k':=fun k' hk'=>by
    obtain⟨k,hk,rfl⟩:=List.mem_map.1 hk';have:=IH k hk;exact⟨this.2.1,this.2.2.1,this.2.2.2.2.2.1⟩
   have hfl:=flat_map_le (f:=fm) fun k hk=>⟨(IH k hk).2.2.2.1,(IH k hk).2.2.2.2.1⟩;have hml:(ks.map fm).length=ks.length:=List.length_map _;have hhd:∀k∈ks.map fm,1≤k.length∧Gd (hd0 k):=fun k hk=>by
    have:=hK k hk;have hn:=this.1.ne.2;refine⟨hn,this.2.1 _ ?_⟩;cases k with
    |nil=>simp at hn
    |cons x r=>exact List.mem_cons_self ..
   have hform:Ev (fun k=>tight_form.f k (n::ks.flatten)) (res n.f1 (ks.map fm)):=
    form_nest d (by omega) n ks (ks.map fm) h1 k1 k2 hs hg (by simp only[List.length_cons];omega) (by omega) hml.symm (by omega) hhd (fun i hi hi'=>by rw[List.getElem_map];exact(IH _ (List.getElem_mem _)).1)
   have hcn:Sh.cnt n.f1=(((ks.map fm).length:Int),true):=by rw[hml,←k1];exact(leaf n g h0).1
   have p2:=Xe9 (RA.kids k2);cases hj:(jnS n.f1 (ks.map fm)).2.2.2.2 with
   |true=> obtain⟨m,m1,m2,m3,m4,m5,m6⟩:=res_one d n.f1 (ks.map fm) g.2.2 (by omega) hcn (fun k hk=>(hK k hk).1) (fun k hk=>(hK k hk).2.1) hj;rw[m1]at hform;refine⟨[m],hform,⟨m,by omega,.inl ⟨m2,rfl⟩⟩,fun x hx=>by rw[List.mem_singleton.1 hx];exact m5,by simp,?_,m6,m3⟩;rw[Xcz,Xcz,sm_nil];omega
   |false=>
    have hres:res n.f1 (ks.map fm)=n::(ks.map fm).flatten:=by unfold res;rw[hj,if_neg (by simp),←nest_node n g h0 h1]
    have hgb:∀m∈n::(ks.map fm).flatten,Gd m:=fun m hm=>by
     rcases List.mem_cons.1 hm with rfl|hm
     ·exact g
     ·obtain⟨k,q1,q2⟩:=List.mem_flatten.1 hm;exact(hK k q1).2.1 m q2
    rw[hres]at hform;refine⟨n::(ks.map fm).flatten,hform,⟨n,h0,.inr ⟨h1,ks.map fm,by omega,fun k hk=>(hK k hk).1,rfl⟩⟩,hgb,by simp only[List.length_cons];omega,by rw[Xcz,Xcz];omega,?_,rfl⟩;have:=form_nest d (by omega) n (ks.map fm) (ks.map fm) h1 (by omega) (fun k hk=>(hK k hk).1) (by rw[Xcz];omega) hgb (by simp only[List.length_cons];omega) (by omega) rfl (by omega) hhd (fun i hi hi'=>(hK _ (List.getElem_mem _)).2.2);rw[hres]at this;exact this
theorem few_loop(l:List S32):∀d i,i≤l.length→i≤200→200-i=d→∀x:Int,0≤x→x≤600*(i:Int)→
    ∃b,Ev (fun k=>Xab.l0 k l x (i:Int)) b∧(b=true→l.length≤100∧∀n∈l.drop i,Fits n):=by
  intro d
  induction d with
  |zero=>
    intro i h1 h2 h3 x hx0 hx1;by_cases hi:i<l.length
    · refine⟨false,Ev.succ ?_,by simp⟩;simp only[Xab.l0,if_pos (show((i:Int)<(l.length:Int)) by omega),decide_eq_false (show¬((i:Int)<200) by omega)];refine Ev.succ ?_;simp only[Xab.j1,Bool.false_eq_true,if_false,if_neg (show¬((l.length:Int)≤100) by omega)];exact Ev.const _
    · by_cases g:(l.length:Int)≤100
      · refine⟨decide (x≤1000),Ev.succ ?_,fun _=>⟨by omega,by rw[List.drop_eq_nil_of_le (by omega)];simp⟩⟩;simp only[Xab.l0,if_neg (show¬((i:Int)<(l.length:Int)) by omega)];refine Ev.succ ?_;simp only[Xab.j1,Bool.false_eq_true,if_false,if_pos g];exact Ev.const _
      · refine⟨false,Ev.succ ?_,by simp⟩;simp only[Xab.l0,if_neg (show¬((i:Int)<(l.length:Int)) by omega)];refine Ev.succ ?_;simp only[Xab.j1,Bool.false_eq_true,if_false,if_neg g];exact Ev.const _
  |succ d ih=>
    intro i h1 h2 h3 x hx0 hx1;by_cases hi:i<l.length
    · have hrd:Xa l (i:Int)=l[i]:=Xfc l i hi;have hd:l.drop i=l[i]::l.drop (i+1):=(List.drop_eq_getElem_cons hi);rw[hd];generalize l[i]=n at hrd;by_cases g1:(n.f1.length:Int)>30
      · refine⟨false,Ev.succ ?_,by simp⟩;simp only[Xab.l0,if_pos (show((i:Int)<(l.length:Int)) by omega),decide_eq_true (show((i:Int)<200) by omega)];refine Ev.succ ?_;simp only[Xab.j1,if_true,if_pos (show(0:Int)≤(i:Int) by omega),if_pos (show((i:Int)<(l.length:Int)) by omega),hrd,if_pos g1];exact Ev.const _
      · by_cases g2:(n.f2.length:Int)>300
        · refine⟨false,Ev.succ ?_,by simp⟩;simp only[Xab.l0,if_pos (show((i:Int)<(l.length:Int)) by omega),decide_eq_true (show((i:Int)<200) by omega)];refine Ev.succ ?_;simp only[Xab.j1,if_true,if_pos (show(0:Int)≤(i:Int) by omega),if_pos (show((i:Int)<(l.length:Int)) by omega),hrd,if_neg g1,if_pos g2];exact Ev.const _
        · by_cases g3:(n.f3.length:Int)>300
          · refine⟨false,Ev.succ ?_,by simp⟩;simp only[Xab.l0,if_pos (show((i:Int)<(l.length:Int)) by omega),decide_eq_true (show((i:Int)<200) by omega)];refine Ev.succ ?_;simp only[Xab.j1,if_true,if_pos (show(0:Int)≤(i:Int) by omega),if_pos (show((i:Int)<(l.length:Int)) by omega),hrd,if_neg g1,if_neg g2,if_pos g3];exact Ev.const _
          · have hw:wrap64 (wrap64 (x+(n.f2.length:Int))+(n.f3.length:Int))=x+(n.f2.length:Int)+(n.f3.length:Int):=by rw[w64 (n:=x+(n.f2.length:Int)) (by omega) (by omega),w64 (by omega) (by omega)]
            have hw2:wrap64 ((i:Int)+1)=((i+1:Nat):Int):=by rw[w64 (by omega) (by omega)];omega
            obtain⟨b,hb,hb2⟩:=ih (i+1) (by omega) (by omega) (by omega) (x+(n.f2.length:Int)+(n.f3.length:Int)) (by omega) (by omega);refine⟨b,Ev.succ ?_,fun e=>⟨(hb2 e).1,fun y hy=>?_⟩⟩
            · simp only[Xab.l0,if_pos (show((i:Int)<(l.length:Int)) by omega),decide_eq_true (show((i:Int)<200) by omega)];refine Ev.succ ?_;simp only[Xab.j1,if_true,if_pos (show(0:Int)≤(i:Int) by omega),if_pos (show((i:Int)<(l.length:Int)) by omega),hrd,if_neg g1,if_neg g2,if_neg g3,hw,hw2];exact hb
            · rcases List.mem_cons.1 hy with rfl|hy
              · exact⟨by omega,by omega,by omega⟩
              · exact(hb2 e).2 y hy
    · by_cases g:(l.length:Int)≤100
      · refine⟨decide (x≤1000),Ev.succ ?_,fun _=>⟨by omega,by rw[List.drop_eq_nil_of_le (by omega)];simp⟩⟩;simp only[Xab.l0,if_neg (show¬((i:Int)<(l.length:Int)) by omega)];refine Ev.succ ?_;simp only[Xab.j1,Bool.false_eq_true,if_false,if_pos g];exact Ev.const _
      · refine⟨false,Ev.succ ?_,by simp⟩;simp only[Xab.l0,if_neg (show¬((i:Int)<(l.length:Int)) by omega)];refine Ev.succ ?_;simp only[Xab.j1,Bool.false_eq_true,if_false,if_neg g];exact Ev.const _
theorem few_ev(l:List S32):∃b,Ev (fun k=>Xab.f k l) b∧(b=true→l.length≤100∧∀n∈l,Fits n):=by obtain⟨b,hb,h2⟩:=few_loop l 200 0 (by omega) (by omega) rfl 0 (by omega) (by omega);exact⟨b,hb,h2⟩
theorem ok_of_wf{a:Int}(h:(Lit.int .i64 a).wf=true): -9223372036854775808≤a∧a≤9223372036854775807:=by
 have e0:IntKind.i64.min= -9223372036854775808:=by decide
 have e1:IntKind.i64.max=9223372036854775807:=by decide
 simp only[Lit.wf,Bool.and_eq_true,decide_eq_true_eq,e0,e1]at h;exact h
def WfN(y:S32):Prop:=(Lit.int .i64 y.f0).wf=true∧(∀x∈y.f1,(Lit.int .i64 x).wf=true)∧(∀x∈y.f2,(Lit.int .i64 x).wf=true)∧∀x∈y.f3,(Lit.int .i64 x.f0).wf=true∧(Lit.int .i64 x.f1).wf=true
theorem gd_wf{n:S32}(w:WfN n)(f:Fits n):Gd n:=by unfold Fits at f;exact⟨⟨fun y hy=>ok_of_wf (w.2.2.2 y hy).2,fun v hv=>ok_of_wf (w.2.2.1 v hv),by omega,by omega⟩,fun y hy=>⟨ok_of_wf (w.2.2.2 y hy).1,ok_of_wf (w.2.2.2 y hy).2⟩,f.1⟩
theorem make_no(a:List S32)(ok:∀n∈a,Ok n)(hl:a.length≤9223372036854775807)(h:rt a=false):Ev (fun k=>Xcg.f k a) ([],false):=by have hr:=right_ev a ok hl;rw[h]at hr;simp only[Xcg.f];refine Ev.bind hr ?_;simp only[Bool.false_eq_true,if_false];exact Ev.const _
theorem make_yes(a:List S32)(hg:∀n∈a,Gd n)(hl:a.length≤1048577)(h:rt a=true):Ev (fun k=>Xcg.f k a) (fm a,true)∧
  ∃D:Nat,D≤16∧RA D a∧FP D a (fm a)∧Xc1 0 0 [] 0 a=((a.length:Int),sm a,(D:Int))∧sm a≤1048576:=by
 obtain⟨D,d1,d2,d3,d4⟩:=rt_RA h;have hF:=fm_main D d1 a d2 hg hl d4;refine⟨?_,D,d1,d2,hF,d3,d4⟩;have hr:=right_ev a (fun n hn=>(hg n hn).1.1) (by omega);rw[h]at hr;simp only[Xcg.f];refine Ev.bind hr ?_;simp only[if_true];exact Ev.bind hF.1 (Ev.const _)
noncomputable def q {α:Type} (a b:α):Bool:=@decide (a=b) (Classical.propDecidable _)
theorem q_t{α:Type}{a b:α}(h:a=b):q a b=true:=by unfold q;exact@decide_eq_true _ (Classical.propDecidable _) h
theorem q_f{α:Type}{a b:α}(h:a≠b):q a b=false:=by unfold q;exact@decide_eq_false _ (Classical.propDecidable _) h
theorem q_nil{α:Type}{a b:List α}{i:Nat}(h:a.length≤i)(h2:b.length≤i):q (a.drop i) (b.drop i)=true:=q_t (by rw[List.drop_eq_nil_of_le h,List.drop_eq_nil_of_le h2])
theorem q_eq{α:Type}{a b:List α}{i:Nat}(ha:i<a.length)(hb:i<b.length)(h:a[i]=b[i]):q (a.drop i) (b.drop i)=q (a.drop (i+1)) (b.drop (i+1)):=by
 by_cases g:a.drop (i+1)=b.drop (i+1)
 ·rw[q_t g,q_t (by rw[List.drop_eq_getElem_cons ha,List.drop_eq_getElem_cons hb,h,g])]
 ·rw[q_f g,q_f (fun e=>g (by rw[List.drop_eq_getElem_cons ha,List.drop_eq_getElem_cons hb]at e;injection e))]
theorem q_ne{α:Type}{a b:List α}{i:Nat}(ha:i<a.length)(hb:i<b.length)(h:a[i]≠b[i]):q (a.drop i) (b.drop i)=false:=
 q_f (fun e=>h (by rw[List.drop_eq_getElem_cons ha,List.drop_eq_getElem_cons hb]at e;injection e))
theorem dec_ne(x y:S35):(!(x.f0==y.f0)|| !(x.f1==y.f1))= !(q x y):=by
 by_cases h:x=y
 ·rw[q_t h,h];simp
 ·rw[q_f h];obtain⟨a,b⟩:=x;obtain⟨c,d⟩:=y;by_cases e:a=c
  ·by_cases f:b=d
   ·exact absurd (by rw[e,f]) h
   ·simp only[beq_eq_false_iff_ne.mpr f,Bool.not_false,Bool.or_true]
  ·simp only[beq_eq_false_iff_ne.mpr e,Bool.not_false,Bool.true_or]
theorem node_q(x y:S32):q x y=(q x.f0 y.f0&&(q x.f1 y.f1&&(q x.f2 y.f2&&q x.f3 y.f3))):=by
 obtain⟨a,b,c,d⟩:=x;obtain⟨a',b',c',d'⟩:=y;by_cases h0:a=a'
 ·by_cases h1:b=b'
  ·by_cases h2:c=c'
   ·by_cases h3:d=d'
    ·rw[q_t (by rw[h0,h1,h2,h3])];simp only[q_t h0,q_t h1,q_t h2,q_t h3];rfl
    ·rw[q_f (fun e=>h3 (by injection e))];simp only[q_f h3,Bool.and_false]
   ·rw[q_f (fun e=>h2 (by injection e))];simp only[q_f h2,Bool.and_false,Bool.false_and]
  ·rw[q_f (fun e=>h1 (by injection e))];simp only[q_f h1,Bool.and_false,Bool.false_and]
 ·rw[q_f (fun e=>h0 (by injection e))];simp only[q_f h0,Bool.false_and]
def Fit2(n:S32):Prop:=n.f1.length≤1100000∧n.f2.length≤1100000∧n.f3.length≤1100000
theorem req_loop(a b:List Int)(he:a.length=b.length)(hl:a.length≤9223372036854775807):∀d i,i≤a.length→a.length-i=d→Ev (fun k=>X4.l0 k a b (i:Int)) (q (a.drop i) (b.drop i)):=by
 intro d
 induction d with
 |zero=> intro i h1 h2;rw[q_nil (by omega) (by omega)];refine Ev.succ ?_;simp only[X4.l0,if_neg (show¬((i:Int)<(a.length:Int)) by omega)];exact Ev.const _
 |succ d ih=>
  intro i h1 h2;have hi:i<a.length:=by omega
  have hb:i<b.length:=by omega
  have hv:=ih (i+1) (by omega) (by omega);refine Ev.succ ?_;simp only[X4.l0,if_pos (show((i:Int)<(a.length:Int)) by omega),if_pos (show((i:Int)<(b.length:Int)) by omega),if_pos (show(0:Int)≤(i:Int) by omega),ix hi hl,Xdl a i hi,Xdl b i hb];by_cases g:a[i]=b[i]
  ·rw[q_eq hi hb g];simp only[if_pos g];exact hv
  ·rw[q_ne hi hb g];simp only[if_neg g];exact Ev.const _
theorem req_ev(a b:List Int)(hl:a.length≤9223372036854775807):Ev (fun k=>X4.f k a b) (q a b):=by
 by_cases h:(a.length:Int)=(b.length:Int)
 ·simp only[X4.f,if_pos h];have:=req_loop a b (by omega) hl a.length 0 (by omega) (by omega);simp only[List.drop_zero]at this;exact this
 ·simp only[X4.f,if_neg h];rw[q_f (fun e=>h (by rw[e]))];exact Ev.const _
theorem one_loop(x y:S32)(h:Fit2 x)(he:x.f3.length=y.f3.length):∀d i,i≤x.f3.length→x.f3.length-i=d→Ev (fun k=>Xak.l0 k (i:Int) x.f0 x.f1 x.f2 x.f3 y.f0 y.f1 y.f2 y.f3) (q (x.f3.drop i) (y.f3.drop i)&&(q x.f0 y.f0&&(q x.f1 y.f1&&q x.f2 y.f2))):=by
 obtain⟨h1,h2,h3⟩:=h;intro d
 induction d with
 |zero=>
  intro i g1 g2;rw[q_nil (by omega) (by omega)];refine Ev.succ ?_;simp only[Xak.l0,if_neg (show¬((i:Int)<(x.f3.length:Int)) by omega),Bool.true_and];by_cases e:x.f0=y.f0
  ·simp only[if_pos e,q_t e,Bool.true_and];refine Ev.bind (req_ev x.f1 y.f1 (by omega)) ?_;cases q x.f1 y.f1 with
   |false=>exact Ev.const _
   |true=>exact Ev.bind (req_ev x.f2 y.f2 (by omega)) (Ev.const _)
  ·simp only[if_neg e,q_f e,Bool.false_and];exact Ev.const _
 |succ d ih=>
  intro i g1 g2;have hi:i<x.f3.length:=by omega
  have hb:i<y.f3.length:=by omega
  have hv:=ih (i+1) (by omega) (by omega);refine Ev.succ ?_;simp only[Xak.l0,if_pos (show((i:Int)<(x.f3.length:Int)) by omega),if_pos (show((i:Int)<(y.f3.length:Int)) by omega),if_pos (show(0:Int)≤(i:Int) by omega),ix hi (by omega),Xdw x.f3 i hi,Xdw y.f3 i hb,dec_ne];by_cases g:x.f3[i]=y.f3[i]
  ·rw[q_eq hi hb g];simp only[q_t g,Bool.not_true,Bool.false_eq_true,if_false];exact hv
  ·rw[q_ne hi hb g];simp only[q_f g,Bool.not_false,if_true,Bool.false_and];exact Ev.const _
theorem one_ev(x y:S32)(h:Fit2 x):Ev (fun k=>Xak.f k x.f0 x.f1 x.f2 x.f3 y.f0 y.f1 y.f2 y.f3) (q x y):=by
 by_cases e:(x.f3.length:Int)=(y.f3.length:Int)
 ·simp only[Xak.f,if_pos e];have:=one_loop x y h (by omega) x.f3.length 0 (by omega) (by omega);simp only[List.drop_zero]at this;rw[node_q];have c:∀p q r s:Bool,(p&&(q&&(r&&s)))=(q&&(r&&(s&&p))):=by decide
  rw[c]at this;exact this
 ·simp only[Xak.f,if_neg e];rw[q_f (fun g=>e (by rw[g]))];exact Ev.const _
theorem Gd.fit{n:S32}(h:Gd n):Fit2 n:=by have:=h.1;have:=h.2.2;unfold Ok2 at*;exact⟨by omega,by omega,by omega⟩
theorem rsame_loop(a b:List S32)(he:a.length=b.length)(hl:a.length≤1100000)(hf:∀n∈a,Gd n):∀d i,i≤a.length→a.length-i=d→Ev (fun k=>deckleref10_Same.l0 k a b (i:Int)) (q (a.drop i) (b.drop i)):=by
 intro d
 induction d with
 |zero=> intro i h1 h2;rw[q_nil (by omega) (by omega)];refine Ev.succ ?_;simp only[deckleref10_Same.l0,if_neg (show¬((i:Int)<(a.length:Int)) by omega)];exact Ev.const _
 |succ d ih=>
  intro i h1 h2;have hi:i<a.length:=by omega
  have hb:i<b.length:=by omega
  have hv:=ih (i+1) (by omega) (by omega);refine Ev.succ ?_;simp only[deckleref10_Same.l0,if_pos (show((i:Int)<(a.length:Int)) by omega),if_pos (show((i:Int)<(b.length:Int)) by omega),if_pos (show(0:Int)≤(i:Int) by omega),ix hi (by omega),Xfc a i hi,Xfc b i hb];refine Ev.bind (one_ev a[i] b[i] (hf _ (List.getElem_mem _)).fit) ?_;by_cases g:a[i]=b[i]
  ·rw[q_eq hi hb g];simp only[q_t g,if_true];exact hv
  ·rw[q_ne hi hb g];simp only[q_f g,Bool.false_eq_true,if_false];exact Ev.const _
theorem rsame_q(a b:List S32)(hl:a.length≤1100000)(hf:∀n∈a,Gd n):Ev (fun k=>deckleref10_Same.f k a b) (q a b):=by
 by_cases h:(a.length:Int)=(b.length:Int)
 ·simp only[deckleref10_Same.f,if_pos h];have:=rsame_loop a b (by omega) hl hf a.length 0 (by omega) (by omega);simp only[List.drop_zero]at this;exact this
 ·simp only[deckleref10_Same.f,if_neg h];rw[q_f (fun e=>h (by rw[e]))];exact Ev.const _
theorem eqi_loop(a b:List Int)(he:a.length=b.length)(hl:a.length≤9223372036854775807):∀d i,i≤a.length→a.length-i=d→Ev (fun k=>Xz.l0 k a b (a.length:Int) (i:Int)) (q (a.drop i) (b.drop i)):=by
 intro d
 induction d with
 |zero=> intro i h1 h2;rw[q_nil (by omega) (by omega)];refine Ev.succ ?_;simp only[Xz.l0,if_neg (show¬((i:Int)<(a.length:Int)) by omega)];exact Ev.const _
 |succ d ih=>
  intro i h1 h2;have hi:i<a.length:=by omega
  have hb:i<b.length:=by omega
  have hv:=ih (i+1) (by omega) (by omega);refine Ev.succ ?_;simp only[Xz.l0,if_pos (show((i:Int)<(a.length:Int)) by omega),if_pos (show((i:Int)<(b.length:Int)) by omega),if_pos (show(0:Int)≤(i:Int) by omega),ix hi hl,Xdl a i hi,Xdl b i hb];by_cases g:a[i]=b[i]
  ·rw[q_eq hi hb g];simp only[if_pos g];exact hv
  ·rw[q_ne hi hb g];simp only[if_neg g];exact Ev.const _
theorem eqi_ev(a b:List Int)(hl:a.length≤9223372036854775807):Ev (fun k=>Xz.f k a b) (q a b):=by
 by_cases h:(a.length:Int)=(b.length:Int)
 ·simp only[Xz.f,if_pos h];have:=eqi_loop a b (by omega) hl a.length 0 (by omega) (by omega);simp only[List.drop_zero]at this;exact this
 ·simp only[Xz.f,if_neg h];rw[q_f (fun e=>h (by rw[e]))];exact Ev.const _
theorem eqd_loop(a b:List S35)(he:a.length=b.length)(hl:a.length≤9223372036854775807):∀d i,i≤a.length→a.length-i=d→Ev (fun k=>Xbi.l0 k a b (a.length:Int) (i:Int)) (q (a.drop i) (b.drop i)):=by
 intro d
 induction d with
 |zero=> intro i h1 h2;rw[q_nil (by omega) (by omega)];refine Ev.succ ?_;simp only[Xbi.l0,if_neg (show¬((i:Int)<(a.length:Int)) by omega)];exact Ev.const _
 |succ d ih=>
  intro i h1 h2;have hi:i<a.length:=by omega
  have hb:i<b.length:=by omega
  have hv:=ih (i+1) (by omega) (by omega);refine Ev.succ ?_;simp only[Xbi.l0,if_pos (show((i:Int)<(a.length:Int)) by omega),if_pos (show((i:Int)<(b.length:Int)) by omega),if_pos (show(0:Int)≤(i:Int) by omega),ix hi hl,Xdw a i hi,Xdw b i hb,dec_ne];by_cases g:a[i]=b[i]
  ·rw[q_eq hi hb g];simp only[q_t g,Bool.not_true,Bool.false_eq_true,if_false];exact hv
  ·rw[q_ne hi hb g];simp only[q_f g,Bool.not_false,if_true];exact Ev.const _
theorem eqd_ev(a b:List S35)(hl:a.length≤9223372036854775807):Ev (fun k=>Xbi.f k a b) (q a b):=by
 by_cases h:(a.length:Int)=(b.length:Int)
 ·simp only[Xbi.f,if_pos h];have:=eqd_loop a b (by omega) hl a.length 0 (by omega) (by omega);simp only[List.drop_zero]at this;exact this
 ·simp only[Xbi.f,if_neg h];rw[q_f (fun e=>h (by rw[e]))];exact Ev.const _
theorem same1_ev(x y:S32)(h:Fit2 x):Ev (fun k=>Xb8.f k x.f0 x.f1 x.f2 x.f3 y.f0 y.f1 y.f2 y.f3) (q x y):=by
 obtain⟨h1,h2,h3⟩:=h;rw[node_q];by_cases e:x.f0=y.f0
 ·simp only[Xb8.f,if_pos e,q_t e,Bool.true_and];refine Ev.bind (eqi_ev x.f1 y.f1 (by omega)) ?_;cases q x.f1 y.f1 with
  |false=>exact Ev.const _
  |true=>
   refine Ev.bind (eqi_ev x.f2 y.f2 (by omega)) ?_;cases q x.f2 y.f2 with
   |false=>exact Ev.const _
   |true=>exact Ev.bind (eqd_ev x.f3 y.f3 (by omega)) (Ev.const _)
 ·simp only[Xb8.f,if_neg e,q_f e,Bool.false_and];exact Ev.const _
theorem eqn_loop(a b:List S32)(he:a.length=b.length)(hl:a.length≤100)(hf:∀n∈a,Fit2 n):∀d i,i≤a.length→a.length-i=d→Ev (fun k=>Xa7.l0 k b a (a.length:Int) (i:Int)) (q (a.drop i) (b.drop i)):=by
 intro d
 induction d with
 |zero=> intro i h1 h2;rw[q_nil (by omega) (by omega)];refine Ev.succ ?_;simp only[Xa7.l0,if_neg (show¬((i:Int)<(a.length:Int)) by omega)];exact Ev.const _
 |succ d ih=>
  intro i h1 h2;have hi:i<a.length:=by omega
  have hb:i<b.length:=by omega
  have hv:=ih (i+1) (by omega) (by omega);refine Ev.succ ?_;simp only[Xa7.l0,if_pos (show((i:Int)<(a.length:Int)) by omega),if_pos (show((i:Int)<(b.length:Int)) by omega),if_pos (show(0:Int)≤(i:Int) by omega),ix hi (by omega),Xfc a i hi,Xfc b i hb];refine Ev.bind (same1_ev a[i] b[i] (hf _ (List.getElem_mem _))) ?_;by_cases g:a[i]=b[i]
  ·rw[q_eq hi hb g];simp only[q_t g,if_true];exact hv
  ·rw[q_ne hi hb g];simp only[q_f g,Bool.false_eq_true,if_false];exact Ev.const _
theorem same_q(a b:List S32)(hl:a.length≤100)(hf:∀n∈a,Fit2 n):Ev (fun k=>Xct.f k a b) (q a b):=by
 simp only[Xct.f];refine Ev.bind ?_ (Ev.const _);by_cases h:(a.length:Int)=(b.length:Int)
 ·simp only[Xa7.f,if_pos h];have:=eqn_loop a b (by omega) hl hf a.length 0 (by omega) (by omega);simp only[List.drop_zero]at this;exact this
 ·simp only[Xa7.f,if_neg h];rw[q_f (fun e=>h (by rw[e]))];exact Ev.const _
theorem rfirst_ev(l:List S32)(ok:∀n∈l,Ok3 n)(hl:l.length≤1099511627776):Ev (fun k=>Xr.f k l 16) (Xc1 0 0 [] 0 l):=by rw[walk_is];exact first_ev 16 (Nat.le_refl _) l ok hl
theorem rtake_ev(l:List S32)(ok:∀n∈l,Ok3 n)(hl:l.length≤1099511627776):Ev (fun k=>Xbx.f k l) (tk l):=by simp only[Xbx.f];exact Ev.bind (rfirst_ev l ok hl) (Ev.const _)
theorem rright_ev(l:List S32)(ok:∀n∈l,Ok3 n)(hl:l.length≤1099511627776):Ev (fun k=>Xaz.f k l) (rt l):=by
 unfold rt;by_cases h:(l.length:Int)>0
 ·simp only[Xaz.f,if_pos h];exact Ev.bind (rtake_ev l ok hl) (Ev.const _)
 ·simp only[Xaz.f,if_neg h];exact Ev.const _
theorem ok3_of{n:S32}(h:Gd n):Ok3 n:=by have:=h.1;unfold Ok2 at this;exact⟨this.1,this.2.1,by omega,by omega⟩
theorem tdiv_small{z:Int}(h:In64 z): -922337203685477580≤Int.tdiv z 10∧Int.tdiv z 10≤922337203685477580:=by
 unfold In64 at h;by_cases g:0≤z
 ·rw[Int.tdiv_eq_ediv_of_nonneg g];omega
 ·obtain⟨y,rfl⟩:∃y,z= -y:=⟨-z,by omega⟩;rw[Int.neg_tdiv,Int.tdiv_eq_ediv_of_nonneg (show 0≤y by omega)];omega
theorem whole_both(m:Int):∀(d:Nat)(n:Int)(j i:Nat),j≤18→i≤j→j-i=d→In64 n→∃v,Ev (fun k=>Xq.l0 k n (j:Int) (i:Int)) v∧Ev (fun k=>Xn.l0 k n (i:Int) m (j:Int)) v:=by
  intro d
  induction d with
  |zero=>
    intro n j i h1 h2 h3 h4;refine⟨(n,true),Ev.succ ?_,Ev.succ ?_⟩
    · simp only[Xq.l0,if_neg (show¬((i:Int)<(j:Int)) by omega)];exact Ev.const _
    · simp only[Xn.l0,if_neg (show¬((i:Int)<(j:Int)) by omega)];exact Ev.const _
  |succ d ih=>
    intro n j i h1 h2 h3 h4;have hw:wrap64 ((i:Int)+1)=((i+1:Nat):Int):=by rw[w64 (by omega) (by omega)];omega
    have hlt:(i:Int)<(j:Int):=by omega
    by_cases g: -922337203685477580≤n∧n≤922337203685477580
    · have e:wrap64 (n*10)=n*10:=w64 (by omega) (by omega);have e3:wrap64 (10*n)=n*10:=by rw[Int.mul_comm 10 n];exact e
      have e2:wrap64 (Int.tdiv (wrap64 (n*10)) 10)=n:=by rw[e,Int.mul_tdiv_cancel _ (by decide)];unfold In64 at h4;exact w64 h4.1 h4.2
      obtain⟨v,v1,v2⟩:=ih (n*10) j (i+1) h1 (by omega) (by omega) (by unfold In64;omega);refine⟨v,Ev.succ ?_,Ev.succ ?_⟩
      · simp only[Xq.l0,if_pos hlt,if_pos e2,hw];rw[e];exact v1
      · simp only[Xn.l0,if_pos hlt,if_neg (show¬n>922337203685477580 by omega),if_neg (show¬n< -922337203685477580 by omega),hw,e3];exact v2
    · have e2:¬wrap64 (Int.tdiv (wrap64 (n*10)) 10)=n:=by have ht:=tdiv_small (In64.wrap (n*10));rw[w64 (by omega) (by omega)];omega
      refine⟨(0,false),Ev.succ ?_,Ev.succ ?_⟩
      · simp only[Xq.l0,if_pos hlt,if_neg e2];exact Ev.const _
      · by_cases c:n>922337203685477580
        · simp only[Xn.l0,if_pos hlt,if_pos c];exact Ev.const _
        · simp only[Xn.l0,if_pos hlt,if_neg c,if_pos (show n< -922337203685477580 by omega)];exact Ev.const _
theorem rdr_ev(y:S35)(h:OkD y):Ev (fun k=>Xl.f k y.f0 y.f1) (dr y):=by have:=Xe8 y h;simp only[←dright_same]at this;exact this
theorem rwh_ev(y:S35)(h:OkE y):Ev (fun k=>Xn.f k y.f0 y.f1) (wh y):=by
 have hr:=Xe8 y h.d;have hr2:=rdr_ev y h.d;have hno:Ev (fun k=>Xn.j0 k true y.f0 y.f1) (0,false):=Ev.succ (by simp only[Xn.j0,if_true];exact Ev.const _);have hno2:Ev (fun k=>Xq.j0 k true y.f0 y.f1) (0,false):=Ev.succ (by simp only[Xq.j0,if_true];exact Ev.const _);obtain⟨v,q1,q2⟩:∃v,Ev (fun k=>Xq.f k y.f0 y.f1) v∧Ev (fun k=>Xn.f k y.f0 y.f1) v:=by
  cases g:dr y with
  |false=>
   rw[g]at hr hr2;refine⟨(0,false),?_,?_⟩
   ·simp only[Xq.f];refine Ev.bind hr ?_;simp only[Bool.false_eq_true,if_false];exact hno2
   ·simp only[Xn.f];refine Ev.bind hr2 ?_;simp only[Bool.false_eq_true,if_false];exact hno
  |true=>
   rw[g]at hr hr2;by_cases c1:y.f1<0
   ·refine⟨(0,false),?_,?_⟩
    ·simp only[Xq.f];refine Ev.bind hr ?_;simp only[if_true,if_pos c1];exact hno2
    ·simp only[Xn.f];refine Ev.bind hr2 ?_;simp only[if_true,if_pos c1];exact hno
   ·by_cases c2:y.f1>18
    ·refine⟨(0,false),?_,?_⟩
     ·simp only[Xq.f];refine Ev.bind hr ?_;simp only[if_true,if_neg c1,decide_eq_true c2];exact hno2
     ·simp only[Xn.f];refine Ev.bind hr2 ?_;simp only[if_true,if_neg c1,decide_eq_true c2];exact hno
    ·obtain⟨j,hj⟩:∃j:Nat,y.f1=(j:Int):=⟨y.f1.toNat,by omega⟩;obtain⟨v,v1,v2⟩:=whole_both y.f0 j y.f0 j 0 (by omega) (by omega) (by omega) h.1;refine⟨v,?_,?_⟩
     ·simp only[Xq.f];refine Ev.bind hr ?_;simp only[if_true,if_neg c1,decide_eq_false c2];refine Ev.succ ?_;simp only[Xq.j0,Bool.false_eq_true,if_false];rw[hj];exact v1
     ·simp only[Xn.f];refine Ev.bind hr2 ?_;simp only[if_true,if_neg c1,decide_eq_false c2];refine Ev.succ ?_;simp only[Xn.j0,Bool.false_eq_true,if_false];rw[hj];exact v2
 rw[Ev.uniq (wh_ev y h).1 q1];exact q2
noncomputable def kdS:Int→List S35→Int
 |k,[]=>k
 |k,y::r=>kdS (if(wh y).2=true then(if k=1 then(if(wh y).1=0 then 1 else if(wh y).1=1 then 1 else 2)else k)else 4) r
theorem kdS_four:∀l:List S35,kdS 4 l=4
 |[]=>rfl
 |y::r=>by
  unfold kdS;cases(wh y).2<;>simp only[Bool.false_eq_true,if_false,if_true]<;>exact kdS_four r
theorem kdS_val:∀(l:List S35)(k:Int),k=1∨k=2→kdS k l=if l.all (fun y=>(wh y).2)=true then(if k=1∧(l.map (fun y=>(wh y).1)).all bit=true then 1 else 2)else 4
 |[],k,h=>by
  rcases h with rfl|rfl<;>simp[kdS]
 |y::r,k,h=>by
  unfold kdS;rw[List.all_cons,List.map_cons,List.all_cons];cases w:(wh y).2 with
  |false=> simp only[Bool.false_eq_true,if_false,Bool.false_and];exact kdS_four r
  |true=>
   simp only[if_true,Bool.true_and];rcases h with rfl|rfl
   ·by_cases b:(wh y).1=0
    ·simp only[if_true,if_pos b];rw[kdS_val r 1 (.inl rfl),show bit (wh y).1=true by rw[b];rfl,Bool.true_and];simp
    ·by_cases c:(wh y).1=1
     ·simp only[if_true,if_neg b,if_pos c];rw[kdS_val r 1 (.inl rfl),show bit (wh y).1=true by rw[c];rfl,Bool.true_and];simp
     ·simp only[if_true,if_neg b,if_neg c];rw[kdS_val r 2 (.inr rfl),show bit (wh y).1=false by unfold bit;rw[beq_eq_false_iff_ne.mpr b,beq_eq_false_iff_ne.mpr c];rfl];simp
   ·simp only[show¬(2:Int)=1 by decide,if_false];rw[kdS_val r 2 (.inr rfl)];simp
theorem rlast(l:List S35)(n:Nat)(ok:∀y∈l,OkE y)(hn:n=l.length)(hl:l.length≤2000000)(kd:Int)(s:List Int):∀d i(c:List Int)(e:List S35),i≤l.length→l.length-i=d→c.length≤i→e.length≤i→
  Ev (fun k=>deckleref11_Numbers.l1 k l (n:Int) (i:Int) kd s c e) (if kd=4 then(kd,s,c,e++l.drop i,true)else(kd,s,c++(l.drop i).map (fun y=>(wh y).1),e,true)):=by
 intro d
 induction d with
 |zero=> intro i c e h1 h2 h3 h4;refine Ev.succ ?_;simp only[deckleref11_Numbers.l1,if_neg (show¬((i:Int)<(n:Int)) by omega),List.drop_eq_nil_of_le (show l.length≤i by omega),List.append_nil,List.map_nil,ite_self];exact Ev.const _
 |succ d ih=>
  intro i c e h1 h2 h3 h4;have hi:i<l.length:=by omega
  refine Ev.succ ?_;simp only[deckleref11_Numbers.l1,if_pos (show((i:Int)<(n:Int)) by omega),if_pos (show(0:Int)≤(i:Int) by omega),if_pos (show((i:Int)<(l.length:Int)) by omega),Xdw l i hi,ix hi (show l.length≤9223372036854775807 by omega)];refine Ev.bind (rwh_ev l[i] (ok _ (List.getElem_mem hi))) ?_;rw[List.drop_eq_getElem_cons hi];by_cases g:kd=4
  ·simp only[if_pos g,if_pos (show e.length<8796093022208 by omega)];have:=ih (i+1) c (e++[l[i]]) (by omega) (by omega) (by omega) (by rw[List.length_append,List.length_singleton];omega);rw[if_pos g,List.append_assoc,List.singleton_append]at this;exact this
  ·simp only[if_neg g,if_pos (show c.length<17592186044416 by omega)];have:=ih (i+1) (c++[(wh l[i]).1]) e (by omega) (by omega) (by rw[List.length_append,List.length_singleton];omega) (by omega);rw[if_neg g,List.append_assoc,List.singleton_append]at this;exact this
theorem rnum_loop(l:List S35)(n:Nat)(ok:∀y∈l,OkE y)(hn:n=l.length)(hl:l.length≤2000000)(s:List Int):∀d i(kd:Int),i≤l.length→l.length-i=d→
  Ev (fun k=>deckleref11_Numbers.l0 k l (n:Int) (i:Int) kd s) (if(l.drop i).all dr=true then(if kdS kd (l.drop i)=4 then(4,s,[],l,true)else(kdS kd (l.drop i),s,l.map (fun y=>(wh y).1),[],true))else(0,[],[],[],false)):=by
 intro d
 induction d with
 |zero=>
  intro i kd h1 h2;refine Ev.succ ?_;simp only[deckleref11_Numbers.l0,if_neg (show¬((i:Int)<(n:Int)) by omega),List.drop_eq_nil_of_le (show l.length≤i by omega),List.all_nil,if_true,kdS];have:=rlast l n ok hn hl kd s l.length 0 [] [] (by omega) (by omega) (by simp) (by simp);rw[List.drop_zero,List.nil_append,List.nil_append]at this;by_cases g:kd=4
  ·rw[if_pos g]at this⊢;rw[g]at this⊢;exact this
  ·rw[if_neg g]at this⊢;exact this
 |succ d ih=>
  intro i kd h1 h2;have hi:i<l.length:=by omega
  refine Ev.succ ?_;simp only[deckleref11_Numbers.l0,if_pos (show((i:Int)<(n:Int)) by omega),if_pos (show(0:Int)≤(i:Int) by omega),if_pos (show((i:Int)<(l.length:Int)) by omega),Xdw l i hi,ix hi (show l.length≤9223372036854775807 by omega)];refine Ev.bind (rdr_ev l[i] (ok _ (List.getElem_mem hi)).d) ?_;rw[List.drop_eq_getElem_cons hi,List.all_cons];cases g:dr l[i]with
  |false=> simp only[Bool.false_eq_true,if_false,Bool.false_and];exact Ev.const _
  |true=>
   simp only[if_true,Bool.true_and];refine Ev.bind (rwh_ev l[i] (ok _ (List.getElem_mem hi))) ?_;unfold kdS;cases w:(wh l[i]).2 with
   |false=> simp only[Bool.false_eq_true,if_false];exact ih (i+1) 4 (by omega) (by omega)
   |true=>
    simp only[if_true];by_cases c1:kd=1
    ·simp only[if_pos c1];by_cases c2:(wh l[i]).1=0
     ·simp only[if_pos c2];rw[c1];exact ih (i+1) 1 (by omega) (by omega)
     ·simp only[if_neg c2];by_cases c3:(wh l[i]).1=1
      ·simp only[if_pos c3];rw[c1];exact ih (i+1) 1 (by omega) (by omega)
      ·simp only[if_neg c3];exact ih (i+1) 2 (by omega) (by omega)
    ·simp only[if_neg c1];exact ih (i+1) kd (by omega) (by omega)
theorem Xet(s:List Int)(l:List S35)(ok:∀y∈l,OkE y)(hs:s.length≤2000000)(hl:l.length≤2000000):Ev (fun k=>deckleref11_Numbers.f k s l) (nbS s l):=by
  have hc:=rcnt_ev s;have hno:∀x:Int,Ev (fun k=>deckleref11_Numbers.j0 k s l x true) (0,[],[],[],false):=fun x=>Ev.succ (by simp only[deckleref11_Numbers.j0,if_true];exact Ev.const _);unfold nbS
  revert hc
  generalize Sh.cnt s=c;intro hc;simp only[deckleref11_Numbers.f];refine Ev.bind hc ?_;by_cases g1:c.2=true
  · simp only[if_pos g1];by_cases g2:c.1=(l.length:Int)
    · simp only[bne_eq_false_iff_eq.mpr g2];refine Ev.succ ?_;simp only[deckleref11_Numbers.j0,Bool.false_eq_true,if_false,Option.bind_some,List.length_nil,Nat.zero_add,List.nil_append,if_pos (show s.length<17592186044416 by omega)];have key:∀kd:Int,kd=1∨kd=2→(kd=1→0<l.length)→(kd=2→¬0<l.length)→Ev (fun k=>deckleref11_Numbers.j1 k l c.1 kd s) (if c.2=true∧c.1=(l.length:Int)∧l.all dr=true then
    (if l.all (fun y=>(wh y).2)=true then((if 0<l.length∧(l.map (fun y=>(wh y).1)).all bit=true then 1 else 2),s,l.map (fun y=>(wh y).1),[],true)else(4,s,[],l,true))
  else(0,[],[],[],false)):=fun kd hk p1 p2=>by
        refine Ev.succ ?_;simp only[deckleref11_Numbers.j1];have:=rnum_loop l l.length ok rfl hl s l.length 0 kd (by omega) (by omega);rw[List.drop_zero,kdS_val l kd hk]at this;rw[g2];cases a:l.all dr with
        |false=> rw[a]at this;rw[if_neg (fun h=>by simp at h)];simp only[Bool.false_eq_true,if_false]at this;exact this
        |true=>
          rw[a]at this;rw[if_pos ⟨g1,rfl,rfl⟩];simp only[if_true]at this;cases w:l.all (fun y=>(wh y).2)with
          |false=> rw[w]at this;simp only[Bool.false_eq_true,if_false,if_true]at this⊢;exact this
          |true=>
            rw[w]at this;simp only[if_true]at this⊢;have e:(kd=1∧(l.map (fun y=>(wh y).1)).all bit=true)↔(0<l.length∧(l.map (fun y=>(wh y).1)).all bit=true):=by
              refine and_congr_left fun _=>⟨p1,fun h=>?_⟩;rcases hk with h1|h1
              · exact h1
              · exact absurd h (p2 h1)
            by_cases z:0<l.length∧(l.map (fun y=>(wh y).1)).all bit=true
            · rw[if_pos (e.mpr z),if_neg (by decide)]at this;rw[if_pos z];exact this
            · rw[if_neg (fun h=>z (e.mp h)),if_neg (by decide)]at this;rw[if_neg z];exact this
      by_cases g3:c.1=0
      · simp only[if_pos g3];exact key 2 (.inr rfl) (fun h=>absurd h (by decide)) (fun _=>by omega)
      · simp only[if_neg g3];exact key 1 (.inl rfl) (fun _=>by omega) (fun h=>absurd h (by decide))
    · simp only[bne_iff_ne.mpr g2];rw[if_neg (fun h=>g2 h.2.1)];exact hno _
  · simp only[if_neg g1];rw[if_neg (fun h=>g1 h.1)];exact hno _
theorem rof_ev(v:Int)(h:In64 v):Ev (fun k=>Xbh.f k v) ((ofD v).f0,(ofD v).f1):=by have hv:=(Xdp v h).1;simp only[Xba.f,X8.f]at hv;simp only[Xbh.f,Xai.f,norm_same];exact hv
theorem rvals_loop(a:Int)(b l:List Int)(e:List S35)(ok:∀v∈l,In64 v)(hl:l.length≤2000000):∀d i(acc:List S35),i≤l.length→l.length-i=d→acc.length≤i+2000000→Ev (fun k=>X0.l0 k acc (i:Int) a b l e) (acc++(l.drop i).map ofD):=by
 intro d
 induction d with
 |zero=> intro i acc h1 h2 h3;refine Ev.succ ?_;simp only[X0.l0,if_neg (show¬((i:Int)<(l.length:Int)) by omega),List.drop_eq_nil_of_le (show l.length≤i by omega),List.map_nil,List.append_nil];exact Ev.const _
 |succ d ih=>
  intro i acc h1 h2 h3;have hi:i<l.length:=by omega
  refine Ev.succ ?_;simp only[X0.l0,if_pos (show((i:Int)<(l.length:Int)) by omega),if_pos (show(0:Int)≤(i:Int) by omega),Xdl l i hi,ix hi (show l.length≤9223372036854775807 by omega)];refine Ev.bind (rof_ev l[i] (ok _ (List.getElem_mem hi))) ?_;simp only[if_pos (show acc.length<8796093022208 by omega)];have:=ih (i+1) (acc++[ofD l[i]]) (by omega) (by omega) (by rw[List.length_append,List.length_singleton];omega);rw[List.append_assoc,List.singleton_append]at this;rw[List.drop_eq_getElem_cons hi,List.map_cons];exact this
theorem rvals_ev(n:S32)(ok:∀v∈n.f2,In64 v)(hl:n.f2.length≤2000000)(he:n.f3.length≤2000000):Ev (fun k=>X0.f k n.f0 n.f1 n.f2 n.f3) (n.f3++n.f2.map ofD):=by have:=rvals_loop n.f0 n.f1 n.f2 n.f3 ok hl n.f2.length 0 n.f3 (by omega) (by omega) (by omega);rw[List.drop_zero]at this;simp only[X0.f,Option.bind_some,List.length_nil,Nat.zero_add,List.nil_append,if_pos (show n.f3.length<8796093022208 by omega)];exact this
theorem copyG_loop(l:List S32)(hl:l.length≤100)(hf:∀n∈l,Gd n):∀d i,i≤l.length→l.length-i=d→Ev (fun k=>deckleref10_Copy.l0 k l (l.take i) (i:Int)) l:=by
 intro d
 induction d with
 |zero=> intro i h1 h2;refine Ev.succ ?_;simp only[deckleref10_Copy.l0,if_neg (show¬((i:Int)<(l.length:Int)) by omega)];rw[List.take_of_length_le (show l.length≤i by omega)];exact Ev.const _
 |succ d ih=>
  intro i h1 h2;have hi:i<l.length:=by omega
  have hv:=ih (i+1) (by omega) (by omega);obtain⟨⟨_,_,f2,f3⟩,_,f1⟩:=hf l[i] (List.getElem_mem _);have ht:(l.take i).length=i:=by rw[List.length_take];omega
  rw[List.take_succ_eq_append_getElem hi]at hv;refine Ev.succ ?_;simp only[deckleref10_Copy.l0,if_pos (show((i:Int)<(l.length:Int)) by omega),if_pos (show(0:Int)≤(i:Int) by omega),ix hi (show l.length≤9223372036854775807 by omega),Xfc l i hi,Option.bind_some,List.length_nil,Nat.zero_add,List.nil_append,if_pos (show l[i].f1.length<17592186044416 by omega),if_pos (show l[i].f2.length<17592186044416 by omega),if_pos (show l[i].f3.length<8796093022208 by omega),ht,if_pos (show i<1759218604441 by omega)];exact hv
theorem copyG_ev(l:List S32)(hl:l.length≤100)(hf:∀n∈l,Gd n):Ev (fun k=>deckleref10_Copy.f k l) l:=by have:=copyG_loop l hl hf l.length 0 (by omega) (by omega);rw[List.take_zero]at this;simp only[deckleref10_Copy.f];exact this
theorem kidsG_loop(D:Nat)(hD:D≤16)(l:List S32)(hl:l.length≤100)(hf:∀n∈l,Gd n):∀(ks:List (List S32))(m:Nat)(acc:List (List S32)),ks.flatten=l.drop m→(∀k∈ks,RA D k∧sm k≤1048576)→m≤l.length→acc.length≤m→
  Ev (fun k=>Xv.l0 k l acc (m:Int)) (acc++ks):=by
 intro ks
 induction ks with
 |nil=>
  intro m acc h1 h2 h3 h4;have hz:(l.drop m).length=0:=by rw[←h1];rfl
  rw[List.length_drop]at hz;refine Ev.succ ?_;simp only[Xv.l0,if_neg (show¬((m:Int)<(l.length:Int)) by omega),List.append_nil];exact Ev.const _
 |cons x ks ih=>
  intro m acc h1 h2 h3 h4;have hx:=h2 x List.mem_cons_self;have hx1:=hx.1.ne.2;have ht:=RA_tk hx.1 hD hx.2 ks.flatten;rw[List.flatten_cons]at h1;rw[h1]at ht;have hlen:x.length+ks.flatten.length=l.length-m:=by rw[←List.length_append,h1,List.length_drop]
  have hw:wrap64 ((m:Int)+tk (l.drop m))=((m+x.length:Nat):Int):=by rw[ht,w64 (by omega) (by omega)];omega
  have hxe:(l.take (m+x.length)).drop m=x:=by rw[List.drop_take,←h1,show m+x.length-m=x.length by omega,List.take_left]
  have hd:ks.flatten=l.drop (m+x.length):=by rw[←List.drop_drop,←h1,List.drop_left]
  have hm:∀n∈x,n∈l:=fun n hn=>List.mem_of_mem_drop (h1▸List.mem_append_left _ hn);have hv:=ih (m+x.length) (acc++[x]) hd (fun k hk=>h2 k (List.mem_cons_of_mem _ hk)) (by omega) (by rw[List.length_append,List.length_singleton];omega);rw[List.append_assoc,List.singleton_append]at hv;refine Ev.succ ?_;simp only[Xv.l0,if_pos (show((m:Int)<(l.length:Int)) by omega),if_pos (show(0:Int)≤(m:Int) by omega),if_pos (show((m:Int)≤(l.length:Int)) by omega),Int.toNat_natCast];refine Ev.bind (rfirst_ev (l.drop m) (fun n hn=>(ok3_of (hf n (List.mem_of_mem_drop hn)))) (by rw[List.length_drop];omega)) ?_;rw[show(Xc1 0 0 [] 0 (l.drop m)).1=tk (l.drop m)from rfl,hw];simp only[if_pos (show(m:Int)≤((m+x.length:Nat):Int) by omega),if_pos (show((m+x.length:Nat):Int)≤(l.length:Int) by omega),Int.toNat_natCast,hxe];refine Ev.bind (copyG_ev x (by omega) (fun n hn=>hf n (hm n hn))) ?_;simp only[if_pos (show acc.length<5864062014805 by omega)];exact hv
theorem rrt(a:List S32)(hl:a.length≤100)(hf:∀n∈a,Gd n):Ev (fun k=>Xaz.f k a) (rt a):=rright_ev a (fun n hn=>ok3_of (hf n hn)) (by omega)
theorem rkids_no(n:S32)(h:rt [n]=true)(g:Gd n)(h5:n.f0≠5):Ev (fun k=>Xv.f k [n]) []:=by have hr:=rrt [n] (by simp) (fun m hm=>by rw[List.mem_singleton.1 hm];exact g);rw[h]at hr;simp only[Xv.f];refine Ev.bind hr ?_;simp only[if_true,List.length_singleton,if_pos (show(0:Int)<((1:Nat):Int) by decide),show((Xa [n] 0).f0 != 5)=true from bne_iff_ne.mpr h5];exact Ev.succ (by simp only[Xv.j0,if_true];exact Ev.const _)
theorem rkids_yes(d:Nat)(hd:d≤15)(n:S32)(ks:List (List S32))(h5:n.f0=5)(hi:itm n=(ks.length:Int))(hk:∀k∈ks,RA d k)(hs:sm (n::ks.flatten)≤1048576)(hg:∀m∈n::ks.flatten,Gd m)(hl:(n::ks.flatten).length≤100):Ev (fun k=>Xv.f k (n::ks.flatten)) ks:=by have hra:RA (d+1) (n::ks.flatten):=⟨n,by omega,.inr ⟨h5,ks,hi,hk,rfl⟩⟩;have hr:=rrt (n::ks.flatten) hl hg;rw[RA_rt hra (by omega) hs]at hr;have hs':=hs;rw[Xcz]at hs';simp only[Xv.f];refine Ev.bind hr ?_;simp only[if_true,List.length_cons,if_pos (show(0:Int)<((ks.flatten.length+1:Nat):Int) by omega),show((Xa (n::ks.flatten) 0).f0 != 5)=false from bne_eq_false_iff_eq.mpr h5];refine Ev.succ ?_;simp only[Xv.j0,Bool.false_eq_true,if_false];exact kidsG_loop d (by omega) (n::ks.flatten) hl hg ks 1 [] rfl (fun k hk'=>⟨hk k hk',by have:=sm_mem (RA.kids hk) hk';omega⟩) (by simp) (by simp)
theorem vals_leaf(n:S32)(g:Gd n)(h:0≤itm n)(h5:n.f0≠5):n.f3++n.f2.map ofD=Xc5 n:=by
 unfold Xc5;rcases Xec (leaf n g h).2 with⟨c,d⟩|⟨c,d⟩|⟨c,d⟩
 ·rw[if_neg (by omega),nil_of (Xez d).2.1,List.nil_append]
 ·rw[if_pos c,nil_of (Xez d).1,List.map_nil,List.append_nil]
 ·exact absurd c h5
noncomputable def rch (k:List S32):List Int:=if(hd0 k).f1.length=0∧(hd0 k).f0=3 then(hd0 k).f2 else[]
noncomputable def ral (k:List S32):List S35:=if(hd0 k).f1.length=0∧(hd0 k).f0≠3∧(hd0 k).f0≠5 then(hd0 k).f3++(hd0 k).f2.map ofD else[]
noncomputable def rend (s:List Int) (ks:List (List S32)):List S32:=if(ks.map rch).flatten.length=ks.length then[⟨3,s,(ks.map rch).flatten,[]⟩]else if(ks.map ral).flatten.length=ks.length then[nd s (ks.map ral).flatten]else⟨5,s,[],[]⟩::ks.flatten
theorem flat_bound{α β:Type}(f:α→List β)(m:Nat):∀(l:List α),(∀x∈l,(f x).length≤m)→(l.map f).flatten.length≤m*l.length
 |[],_=>by simp
 |x::l,h=>by
  have:=flat_bound f m l (fun y hy=>h y (List.mem_cons_of_mem _ hy));have h1:=h x List.mem_cons_self;rw[List.map_cons,List.flatten_cons,List.length_append,List.length_cons,Nat.mul_add];omega
theorem rch_len{k:List S32}(g:Gd (hd0 k)):(rch k).length≤1048576:=by have:=g.1.2.2.1;unfold rch;split<;>simp<;>omega
theorem ral_len{k:List S32}(g:Gd (hd0 k)):(ral k).length≤2097152:=by have:=g.1.2.2;unfold ral;split<;>simp<;>omega
theorem take_map{α β:Type}(f:α→List β)(l:List α)(i:Nat)(h:i<l.length):((l.take (i+1)).map f).flatten=((l.take i).map f).flatten++f l[i]:=by rw[List.take_succ_eq_append_getElem h,List.map_append,List.flatten_append,List.map_singleton,List.flatten_singleton]
theorem take_flat{α:Type}(l:List (List α))(i:Nat)(h:i<l.length):(l.take (i+1)).flatten=(l.take i).flatten++l[i]:=by rw[List.take_succ_eq_append_getElem h,List.flatten_append,List.flatten_singleton]
theorem take_bound{α β:Type}(f:α→List β)(m:Nat)(l:List α)(hl:l.length≤100)(h:∀x∈l,(f x).length≤m)(i:Nat):((l.take i).map f).flatten.length≤m*100:=by
 have:=flat_bound f m (l.take i) (fun x hx=>h x (List.mem_of_mem_take hx));have h2:(l.take i).length≤100:=by rw[List.length_take];omega
 exact Nat.le_trans this (Nat.mul_le_mul_left _ h2)
theorem rj2(d:Nat)(hd:d≤16)(ks:List (List S32))(x7:List S32)(C:List Int)(A:List S35)(i:Nat)(n0:Int)(s n2:List Int)(n3:List S35)(k1:List S32)(b:Bool)(v:List S32)(hb:b=decide ((hd0 k1).f1.length=0∧(hd0 k1).f0=3))(hk:1≤k1.length)(g:Gd (hd0 k1))(hi:i<ks.length)(hl:ks.length≤100)(hC:C.length≤104857600)(hA:A.length≤209715200)
  (h:Ev (fun k=>deckleref11_form.l0 k ks x7 (C++rch k1) (A++ral k1) ((i+1:Nat):Int) n0 s n2 n3) v):Ev (fun k=>deckleref11_form.j2 k ks x7 C A (i:Int) k1 b n0 s n2 n3) v:=by
 have g1:=g.1;unfold Ok2 at g1;have e:Xa k1 0=hd0 k1:=rfl;have hx:wrap64 ((i:Int)+1)=((i+1:Nat):Int):=ix hi (show ks.length≤9223372036854775807 by omega);have hv:=rvals_ev (hd0 k1) g1.2.1 (by omega) (by omega);have hp:(0:Int)<(k1.length:Int):=by omega
 refine Ev.succ ?_;simp only[deckleref11_form.j2,e,hx,if_pos hp];by_cases c0:(hd0 k1).f1.length=0
 ·have c0':((hd0 k1).f1.length:Int)=0:=by omega
  by_cases c3:(hd0 k1).f0=3
  ·have e1:rch k1=(hd0 k1).f2:=by unfold rch;rw[if_pos ⟨c0,c3⟩]
   have e2:ral k1=[]:=by unfold ral;rw[if_neg (fun h=>h.2.1 c3)]
   rw[e1,e2,List.append_nil]at h;rw[hb,decide_eq_true ⟨c0,c3⟩];simp only[if_true,if_pos (show C.length+(hd0 k1).f2.length<17592186044416 by omega),Option.bind_some,if_pos c0',if_pos c3];exact h
  ·have e1:rch k1=[]:=by unfold rch;rw[if_neg (fun h=>c3 h.2)]
   rw[e1,List.append_nil]at h;rw[hb,decide_eq_false (fun h=>c3 h.2)];simp only[Bool.false_eq_true,if_false,if_pos c0',if_neg c3];by_cases c5:(hd0 k1).f0=5
   ·have e2:ral k1=[]:=by unfold ral;rw[if_neg (fun h=>h.2.2 c5)]
    rw[e2,List.append_nil]at h;simp only[if_pos c5];exact h
   ·have e2:ral k1=(hd0 k1).f3++(hd0 k1).f2.map ofD:=by unfold ral;rw[if_pos ⟨c0,c3,c5⟩]
    rw[e2]at h;simp only[if_neg c5];refine Ev.bind hv ?_;simp only[if_pos (show A.length+((hd0 k1).f3++(hd0 k1).f2.map ofD).length<8796093022208 by rw[List.length_append,List.length_map];omega)];exact h
 ·have c0':¬((hd0 k1).f1.length:Int)=0:=by omega
  have e1:rch k1=[]:=by unfold rch;rw[if_neg (fun h=>c0 h.1)]
  have e2:ral k1=[]:=by unfold ral;rw[if_neg (fun h=>c0 h.1)]
  rw[e1,e2,List.append_nil,List.append_nil]at h;rw[hb,decide_eq_false (fun h=>c0 h.1)];simp only[Bool.false_eq_true,if_false,if_neg c0'];exact h
theorem rform_loop(ks ks':List (List S32))(s n2:List Int)(n3:List S35)(hs:s.length≤30)(he:ks.length=ks'.length)(hl:ks.length≤100)(hf:ks'.flatten.length≤100)(hk:∀k∈ks',1≤k.length∧Gd (hd0 k))(hA:∀y∈(ks'.map ral).flatten,OkE y)
  (hev:∀i(h:i<ks.length)(h':i<ks'.length),Ev (fun k=>deckleref11_form.f k ks[i]) ks'[i]):∀d i,i≤ks.length→ks.length-i=d→Ev (fun k=>deckleref11_form.l0 k ks (⟨5,s,[],[]⟩::(ks'.take i).flatten) ((ks'.take i).map rch).flatten ((ks'.take i).map ral).flatten (i:Int) 5 s n2 n3) (rend s ks'):=by
 have bC:=fun i=>take_bound rch 1048576 ks' (by omega) (fun k h=>rch_len (hk k h).2) i;have bA:=fun i=>take_bound ral 2097152 ks' (by omega) (fun k h=>ral_len (hk k h).2) i;intro d
 induction d with
 |zero=>
  intro i h1 h2;have ht:ks'.take i=ks':=List.take_of_length_le (by omega);have bA':=bA i;rw[ht]at bA';rw[ht];refine Ev.succ ?_;unfold rend;simp only[deckleref11_form.l0,if_neg (show¬((i:Int)<(ks.length:Int)) by omega)];by_cases c1:(ks'.map rch).flatten.length=ks'.length
  ·rw[if_pos c1];simp only[if_pos (show((ks'.map rch).flatten.length:Int)=(ks.length:Int) by omega),Option.bind_some,List.length_nil,Nat.zero_add,List.nil_append,if_pos (show s.length<17592186044416 by omega)];exact Ev.const _
  ·rw[if_neg c1];simp only[if_neg (show¬((ks'.map rch).flatten.length:Int)=(ks.length:Int) by omega)];by_cases c2:(ks'.map ral).flatten.length=ks'.length
   ·rw[if_pos c2];simp only[if_pos (show((ks'.map ral).flatten.length:Int)=(ks.length:Int) by omega)];exact Ev.bind (Xet s (ks'.map ral).flatten hA (by omega) (by omega)) (Ev.const _)
   ·rw[if_neg c2];simp only[if_neg (show¬((ks'.map ral).flatten.length:Int)=(ks.length:Int) by omega)];exact Ev.const _
 |succ d ih=>
  intro i h1 h2;have hi:i<ks.length:=by omega
  have hi':i<ks'.length:=by omega
  have hv:=ih (i+1) (by omega) (by omega);rw[take_map rch ks' i hi',take_map ral ks' i hi',take_flat ks' i hi',←List.cons_append]at hv;have hki:=hk ks'[i] (List.getElem_mem _);have hfl:(ks'.take i).flatten.length+ks'[i].length≤100:=by
   have:(ks'.take (i+1)).flatten.length≤ks'.flatten.length:=by
    conv=>rhs;rw[←List.take_append_drop (i+1) ks',List.flatten_append,List.length_append]
    omega
   rw[take_flat ks' i hi',List.length_append]at this;omega
  have e:Xa ks'[i] 0=hd0 ks'[i]:=rfl;have key:∀b,b=decide ((hd0 ks'[i]).f1.length=0∧(hd0 ks'[i]).f0=3)→_:=fun b hb=>rj2 16 (by omega) ks (⟨5,s,[],[]⟩::(ks'.take i).flatten++ks'[i]) _ _ i 5 s n2 n3 ks'[i] b _ hb hki.1 hki.2 hi hl (bC i) (bA i) hv;refine Ev.succ ?_;simp only[deckleref11_form.l0,if_pos (show((i:Int)<(ks.length:Int)) by omega),if_pos (show(0:Int)≤(i:Int) by omega),rdL_at ks i hi];refine Ev.bind (hev i hi hi') ?_;simp only[List.length_cons,if_pos (show(ks'.take i).flatten.length+1+ks'[i].length<1759218604441 by omega),Option.bind_some,if_pos (show(0:Int)<(ks'[i].length:Int) by omega),e];by_cases c0:(hd0 ks'[i]).f1.length=0
  ·simp only[if_pos (show((hd0 ks'[i]).f1.length:Int)=0 by omega)];refine key _ ?_;by_cases c3:(hd0 ks'[i]).f0=3
   ·rw[decide_eq_true ⟨c0,c3⟩];exact beq_iff_eq.mpr c3
   ·rw[decide_eq_false (fun h=>c3 h.2)];exact beq_eq_false_iff_ne.mpr c3
  ·simp only[if_neg (show¬((hd0 ks'[i]).f1.length:Int)=0 by omega)];exact key _ (decide_eq_false (fun h=>c0 h.1)).symm
theorem rkid{d:Nat}{k:List S32}(h:RA d k)(hg:∀n∈k,Gd n):(Xd6 k=true→rch k=[]∧ral k=[])∧(Xd6 k=false→rch k=jch k∧ral k=jal k∧(jch k).length+(jal k).length=1):=by
 constructor
 ·intro hb;unfold Xd6 at hb;rw[Bool.or_eq_true]at hb;unfold rch ral;rcases hb with hb|hb
  ·have:=of_decide_eq_true hb;rw[if_neg (fun h=>by omega),if_neg (fun h=>by omega)];exact⟨rfl,rfl⟩
  ·have:=beq_iff_eq.mp hb;rw[if_neg (fun h=>by omega),if_neg (fun h=>by omega)];exact⟨rfl,rfl⟩
 ·intro hb;obtain⟨m,rfl,p2,p3,p4,p5,p6,p7⟩:=one_kid h hg hb;unfold rch ral jch jal;rw[Xey,p3];by_cases c:m.f0=3
  ·rw[if_pos ⟨rfl,c⟩,if_pos c,if_pos c,if_neg (fun h=>h.2.1 c)];exact⟨rfl,rfl,by rw[(p6 c).1];rfl⟩
  ·rw[if_neg (fun h=>c h.2),if_neg c,if_neg c,if_pos ⟨rfl,c,p2⟩,vals_leaf m p5 (by omega) p2];exact⟨rfl,rfl,by rw[(p7 c).1];rfl⟩
theorem rkids_all{d:Nat}:∀{ks:List (List S32)},(∀k∈ks,RA d k)→(∀k∈ks,∀n∈k,Gd n)→(ks.any Xd6=false→(ks.map rch)=(ks.map jch)∧(ks.map ral)=(ks.map jal))∧(ks.map rch).flatten.length+(ks.map ral).flatten.length≤ks.length∧(ks.any Xd6=true→(ks.map rch).flatten.length+(ks.map ral).flatten.length<ks.length)∧(∀y∈(ks.map ral).flatten,OkE y)
 |[],_,_=>by simp
 |k::ks,h,hg=>by
  obtain⟨i1,i2,i3,i4⟩:=rkids_all (ks:=ks) (fun x hx=>h x (List.mem_cons_of_mem _ hx)) (fun x hx=>hg x (List.mem_cons_of_mem _ hx));obtain⟨k1,k2⟩:=rkid (h k List.mem_cons_self) (hg k List.mem_cons_self);have hgk:=hg k List.mem_cons_self;simp only[List.any_cons,List.map_cons,List.flatten_cons,List.length_append,List.length_cons];cases hb:Xd6 k with
  |true=> obtain⟨e1,e2⟩:=k1 hb;rw[e1,e2];exact⟨fun h=>by simp at h,by simp only[List.length_nil];omega,fun _=>by simp only[List.length_nil];omega,fun y hy=>i4 y (by simpa using hy)⟩
  |false=>
   obtain⟨e1,e2,e3⟩:=k2 hb;rw[e1,e2];refine⟨fun hx=>?_,by omega,fun hx=>?_,fun y hy=>?_⟩
   ·obtain⟨a1,a2⟩:=i1 (by simpa using hx);rw[a1,a2];exact⟨rfl,rfl⟩
   ·have:=i3 (by simpa using hx);omega
   ·rcases List.mem_append.1 hy with hy|hy
    ·obtain⟨m,rfl,p2,p3,p4,p5,p6,p7⟩:=one_kid (h k List.mem_cons_self) hgk hb;unfold jal at hy;rw[Xey]at hy;by_cases c:m.f0=3
     ·rw[if_pos c]at hy;simp at hy
     ·rw[if_neg c]at hy;exact(numS_ok m p5).1 y hy
    ·exact i4 y hy
theorem res_rend(d:Nat)(s:List Int)(ks:List (List S32))(hs:s.length≤30)(hl:ks.length≤100)(hp:0<ks.length)(hc:Sh.cnt s=((ks.length:Int),true))(h:∀k∈ks,RA d k)(hg:∀k∈ks,∀n∈k,Gd n):rend s ks=res s ks:=by
  obtain⟨a1,a2,a3,a4⟩:=rkids_all h hg;unfold rend res jnS;cases hb:ks.any Xd6 with
  |true=> have:=a3 hb;rw[if_neg (by omega),if_neg (by omega),if_pos rfl,if_neg (by simp)]
  |false=>
    obtain⟨e1,e2⟩:=a1 hb;obtain⟨q1,q2,q3,q4⟩:=join_kids h hg hb;rw[e1,e2,if_neg (show¬(false=true) by decide)];unfold jend;by_cases c1:(ks.map jch).flatten.length=ks.length
    · have c3:(ks.map jch).flatten.length=ks.length∧0<ks.length:=⟨c1,hp⟩;rw[if_pos c1];simp only[if_pos c3,if_true]
    · have c3:¬((ks.map jch).flatten.length=ks.length∧0<ks.length):=fun h=>c1 h.1;rw[if_neg c1];simp only[if_neg c3];by_cases c2:(ks.map jal).flatten.length=ks.length
      · have hall:(ks.map jal).flatten.all dr=true:=by
          rw[List.all_eq_true];intro y hy;obtain⟨l,hl1,hl2⟩:=List.mem_flatten.1 hy;obtain⟨k,hk,rfl⟩:=List.mem_map.1 hl1;have hbk:Xd6 k=false:=by
            cases hx:Xd6 k with
            |false=>rfl
            |true=>rw[List.any_eq_false]at hb;exact absurd hx (hb k hk)
          obtain⟨m,rfl,p2,p3,p4,p5,p6,p7⟩:=one_kid (h k hk) (hg k hk) hbk;unfold jal at hl2;rw[Xey]at hl2;by_cases c:m.f0=3
          · rw[if_pos c]at hl2;simp at hl2
          · rw[if_neg c]at hl2;exact List.all_eq_true.mp (p7 c).2 y hl2
        have hn:=nd_good s _ hs (by omega) q4 (by rw[c2];exact hc) hall;rw[if_pos c2,if_pos hn.1];rfl
      · have hn:¬(nbS s (ks.map jal).flatten).2.2.2.2=true:=fun hn=>by
          have:=nbS_iff s _ hn;rw[hc]at this;have:=this.2.1;simp only at this;omega
        rw[if_neg c2,if_neg hn]
theorem rform_ev:∀d,d≤16→∀a,RA d a→(∀n∈a,Gd n)→a.length≤100→sm a≤1048576→Ev (fun k=>deckleref11_form.f k a) (fm a):=by
 intro d
 induction d with
 |zero=>intro hd a h;exact absurd h id
 |succ d ih=>
  intro hd a h hg hl hs;have hrt:=RA_rt h hd hs;obtain⟨n,h0,⟨h1,rfl⟩|⟨h1,ks,k1,k2,rfl⟩⟩:=h
  ·have g:=hg n (List.mem_singleton.2 rfl);refine Ev.succ ?_;simp only[deckleref11_form.f,List.length_singleton,if_pos (show(0:Int)<((1:Nat):Int) by decide),show Xa [n] 0=n from rfl];by_cases h3:n.f0=3
   ·rw[fm_of (form_char [n] (by simp) (by simp) h3 hg)];simp only[if_pos h3];exact Ev.bind (copyG_ev [n] (by simp) hg) (Ev.const _)
   ·obtain⟨f1,f2,f3⟩:=fm_leaf n g h0 h3 h1;have hk:=numS_ok n g;have g1:=g.1;unfold Ok2 at g1;have hv:=rvals_ev n g1.2.1 (by omega) (by omega);rw[vals_leaf n g h0 h1]at hv;rw[fm_of f1];simp only[if_neg h3];refine Ev.bind (rkids_no n hrt g h1) ?_;simp only[if_neg h1];refine Ev.succ ?_;simp only[deckleref11_form.j0,if_true];refine Ev.bind hv ?_;exact Ev.bind (Xet n.f1 (Xc5 n) hk.1 (by have:=g.2.2;omega) (by omega)) (Ev.const _)
  ·have g:=hg n (List.mem_cons_self ..);have hgk:∀k∈ks,∀m∈k,Gd m:=fun k hk m hm=>hg m (List.mem_cons_of_mem _ (List.mem_flatten.2 ⟨k,hk,hm⟩));have hnest:=nest_node n g h0 h1;have hkids:=rkids_yes d (by omega) n ks h1 k1 k2 hs hg hl;simp only[List.length_cons]at hl;have hs':=hs;rw[Xcz]at hs';have hne:∀k∈ks,1≤k.length:=fun k hk=>(k2 k hk).ne.2;have hcount:=len_count hne;have hkl:∀k∈ks,k.length≤100∧sm k≤1048576:=fun k hk=>⟨by have:=len_mem hk;omega,by have:=sm_mem (RA.kids k2) hk;omega⟩;have IH:∀k∈ks,FP d k (fm k):=fun k hk=>fm_main d (by omega) k (k2 k hk) (hgk k hk) (by have:=hkl k hk;omega) (hkl k hk).2;have hK:∀k'∈ks.map fm,RA d k'∧(∀m∈k',Gd m):=fun k' hk'=>by
    obtain⟨k,hk,rfl⟩:=List.mem_map.1 hk';have:=IH k hk;exact⟨this.2.1,this.2.2.1⟩
   have hfl:=flat_map_le (f:=fm) fun k hk=>⟨(IH k hk).2.2.2.1,(IH k hk).2.2.2.2.1⟩;have hml:(ks.map fm).length=ks.length:=List.length_map _;have hhd:∀k∈ks.map fm,1≤k.length∧Gd (hd0 k):=fun k hk=>by
    have:=hK k hk;have hn:=this.1.ne.2;refine⟨hn,this.2 _ ?_⟩;cases k with
    |nil=>simp at hn
    |cons x r=>exact List.mem_cons_self ..
   have hcn:Sh.cnt n.f1=(((ks.map fm).length:Int),true):=by rw[hml,←k1];exact(leaf n g h0).1
   have hform:fm (n::ks.flatten)=res n.f1 (ks.map fm):=fm_of
    (form_nest d (by omega) n ks (ks.map fm) h1 k1 k2 hs hg (by simp only[List.length_cons];omega) (by omega) hml.symm (by omega) hhd (fun i hi hi'=>by rw[List.getElem_map];exact(IH _ (List.getElem_mem _)).1))
   rw[hform];refine Ev.succ ?_;simp only[deckleref11_form.f,List.length_cons,if_pos (show(0:Int)<((ks.flatten.length+1:Nat):Int) by omega),show Xa (n::ks.flatten) 0=n from rfl,if_neg (show¬n.f0=3 by omega)];refine Ev.bind hkids ?_;simp only[if_pos h1];refine Ev.succ ?_;by_cases c:ks.length=0
   ·obtain rfl:=List.eq_nil_of_length_eq_zero c;have hn2:n.f2=[]:=by rw[hnest]
    have hn3:n.f3=[]:=by rw[hnest]
    have hv:=rvals_ev n (fun v hv=>by rw[hn2]at hv;simp at hv) (by rw[hn2];simp) (by rw[hn3];simp);rw[hn2,hn3]at hv;simp only[List.map_nil,List.append_nil]at hv;have hgood:=nd_good n.f1 [] g.2.2 (by simp) (fun y hy=>by simp at hy) hcn rfl;have hres:res n.f1 (([]:List (List S32)).map fm)=[nd n.f1 []]:=by unfold res jnS jend;simp only[List.map_nil,List.any_nil,List.flatten_nil,List.length_nil,Bool.false_eq_true,if_false,Nat.lt_irrefl,and_false];rw[if_pos hgood.1];rfl
    rw[hres];simp only[deckleref11_form.j0,List.length_nil,show((((0:Nat):Int))==0)=true from rfl,if_true];rw[hn2,hn3];refine Ev.bind hv ?_;exact Ev.bind (Xet n.f1 [] (fun y hy=>by simp at hy) (by have:=g.2.2;omega) (by simp)) (Ev.const _)
   ·have hb:((ks.length:Int)==0)=false:=beq_eq_false_iff_ne.mpr (by omega);rw[←res_rend d n.f1 (ks.map fm) g.2.2 (by omega) (by omega) hcn (fun k hk=>(hK k hk).1) (fun k hk=>(hK k hk).2)];simp only[deckleref11_form.j0,hb,Bool.false_eq_true,if_false,Option.bind_some,List.length_nil,Nat.zero_add,List.nil_append,if_pos (show n.f1.length<17592186044416 by have:=g.2.2;omega),h1];have:=rform_loop ks (ks.map fm) n.f1 n.f2 n.f3 g.2.2 hml.symm (by omega) (by omega) hhd (rkids_all (fun k hk=>(hK k hk).1) (fun k hk=>(hK k hk).2)).2.2.2
     (fun i hi hi'=>by rw[List.getElem_map];exact ih (by omega) _ (k2 _ (List.getElem_mem _)) (hgk _ (List.getElem_mem _)) (hkl _ (List.getElem_mem _)).1 (hkl _ (List.getElem_mem _)).2) ks.length 0 (by omega) (by omega)
    rw[List.take_zero]at this;exact this
def dV:List UInt8→Nat→Nat
 |[],_=>0
 |d::x,T=>(d.toNat-48)*10^(T-1)+dV x (T-1)
def dD(x:List UInt8):Prop:=∀d∈x,48≤d.toNat∧d.toNat≤57
def dZ:List UInt8→Prop
 |[]=>True
 |[d]=>d.toNat≠48
 |_::e::x=>dZ (e::x)
theorem dZ_tail{d:UInt8}{x:List UInt8}(h:dZ (d::x)):dZ x:=by
 cases x with
 |nil=>trivial
 |cons e x=>exact h
theorem dV_lt:∀(x:List UInt8)(T:Nat),dD x→x.length≤T→dV x T<10^T
 |[],T,_,_=>Nat.pow_pos (by omega)
 |d::x,T,h,hl=>by
  have ih:=dV_lt x (T-1) (fun e he=>h e (List.mem_cons_of_mem _ he)) (by rw[List.length_cons]at hl;omega);have hd:=h d List.mem_cons_self;rw[List.length_cons]at hl;obtain⟨S,rfl⟩:∃S,T=S+1:=⟨T-1,by omega⟩;simp only[dV,Nat.add_sub_cancel]at ih⊢;rw[Nat.pow_succ];have h9:(d.toNat-48)*10^S≤9*10^S:=Nat.mul_le_mul_right _ (by omega);omega
theorem dV_pos:∀(x:List UInt8)(T:Nat),dD x→dZ x→x≠[]→x.length≤T→0<dV x T
 |[],_,_,_,h,_=>absurd rfl h
 |[d],T,hD,h,_,hl=>by
  have hd:=hD d List.mem_cons_self;have h1:d.toNat≠48:=h;simp only[dV,Nat.add_zero];exact Nat.mul_pos (by omega) (Nat.pow_pos (by omega))
 |d::e::x,T,hD,h,_,hl=>by
  have:=dV_pos (e::x) (T-1) (fun q hq=>hD q (List.mem_cons_of_mem _ hq)) h (by simp) (by rw[List.length_cons]at hl⊢;simp only[List.length_cons]at hl⊢;omega);simp only[dV]at this⊢;omega
theorem less_lt:∀(y x:List UInt8)(T:Nat),dD x→dD y→dZ x→x.length≤T→y.length≤T→Op.bytesLess y x=true→dV y T<dV x T
 |_,[],_,_,_,_,_,_,h=>by simp[Op.bytesLess]at h
 |[],a::x,T,hx,_,hz,hl,_,_=>dV_pos (a::x) T hx hz (by simp) hl
 |b::y,a::x,T,hx,hy,hz,hl,hm,h=>by
  have ha:=hx a List.mem_cons_self;have hb:=hy b List.mem_cons_self;have hx':dD x:=fun q hq=>hx q (List.mem_cons_of_mem _ hq);have hy':dD y:=fun q hq=>hy q (List.mem_cons_of_mem _ hq);rw[List.length_cons]at hl hm;obtain⟨S,rfl⟩:∃S,T=S+1:=⟨T-1,by omega⟩;simp only[dV,Nat.add_sub_cancel];rw[Op.bytesLess,Bool.or_eq_true,Bool.and_eq_true]at h;rcases h with h|⟨h1,h2⟩
  ·have hlt:b.toNat<a.toNat:=of_decide_eq_true h;have h3:=dV_lt y S hy' (by omega);have h4:(b.toNat-48+1)*10^S≤(a.toNat-48)*10^S:=Nat.mul_le_mul_right _ (by omega);rw[Nat.add_mul,Nat.one_mul]at h4;omega
  ·have e:b=a:=beq_iff_eq.mp h1;subst e;have:=less_lt y x S hx' hy' (dZ_tail hz) (by omega) (by omega) h2;omega
theorem less_le:∀(y x:List UInt8)(T:Nat),dD x→dD y→x.length≤T→y.length≤T→Op.bytesLess y x=false→dV x T≤dV y T
 |_,[],_,_,_,_,_,_=>Nat.zero_le _
 |[],a::x,T,_,_,_,_,h=>by simp[Op.bytesLess]at h
 |b::y,a::x,T,hx,hy,hl,hm,h=>by
  have ha:=hx a List.mem_cons_self;have hb:=hy b List.mem_cons_self;have hx':dD x:=fun q hq=>hx q (List.mem_cons_of_mem _ hq);have hy':dD y:=fun q hq=>hy q (List.mem_cons_of_mem _ hq);rw[List.length_cons]at hl hm;obtain⟨S,rfl⟩:∃S,T=S+1:=⟨T-1,by omega⟩;simp only[dV,Nat.add_sub_cancel];rw[Op.bytesLess,Bool.or_eq_false_iff]at h;have hge:¬b.toNat<a.toNat:=of_decide_eq_false h.1;by_cases e:b=a
  ·subst e;have h2:=h.2;simp only[BEq.rfl,Bool.true_and]at h2;have:=less_le y x S hx' hy' (by omega) (by omega) h2;omega
  ·have hne:b.toNat≠a.toNat:=fun q=>e (UInt8.toNat_inj.mp q);have h3:=dV_lt x S hx' (by omega);have h4:(a.toNat-48+1)*10^S≤(b.toNat-48)*10^S:=Nat.mul_le_mul_right _ (by omega);rw[Nat.add_mul,Nat.one_mul]at h4;omega
theorem dV_snoc:∀(x:List UInt8)(d:UInt8)(T:Nat),x.length+1≤T→dV (x++[d]) T=dV x T+(d.toNat-48)*10^(T-x.length-1)
 |[],d,T,h=>by simp[dV]
 |e::x,d,T,h=>by
  rw[List.length_cons]at h;have:=dV_snoc x d (T-1) (by omega);simp only[List.cons_append,dV,List.length_cons]at this⊢;rw[this,show T-1-x.length-1=T-(x.length+1)-1 by omega];omega
theorem u8_dig(n:Nat)(h:n<10):(UInt8.ofNat (48+n)).toNat=48+n:=by simp only[UInt8.toNat_ofNat'];omega
theorem dg_ne(n:Nat):Go.Lib.decDigits n≠[]:=by rw[Go.Lib.decDigits];split<;>simp
theorem dg_D:∀(n:Nat),dD (Go.Lib.decDigits n):=by
 intro n
 induction n using Nat.strongRecOn with
 |_ n ih=>
  rw[Go.Lib.decDigits];by_cases h:n<10
  ·rw[dif_pos h];intro d hd;rw[List.mem_singleton.1 hd,u8_dig n h];omega
  ·rw[dif_neg h];intro d hd;rcases List.mem_append.1 hd with hd|hd
   ·exact ih (n/10) (by omega) d hd
   ·rw[List.mem_singleton.1 hd,u8_dig (n%10) (by omega)];omega
theorem dZ_snoc:∀(x:List UInt8)(d:UInt8),d.toNat≠48→dZ (x++[d])
 |[],d,h=>h
 |[e],d,h=>h
 |e::f::x,d,h=>dZ_snoc (f::x) d h
theorem dg_Z(n:Nat)(h:n%10≠0):dZ (Go.Lib.decDigits n):=by
 rw[Go.Lib.decDigits];by_cases g:n<10
 ·rw[dif_pos g];show(UInt8.ofNat (48+n)).toNat≠48;rw[u8_dig n g];omega
 ·rw[dif_neg g];exact dZ_snoc _ _ (by rw[u8_dig (n%10) (by omega)];omega)
theorem dg_V:∀(n e:Nat),dV (Go.Lib.decDigits n) ((Go.Lib.decDigits n).length+e)=n*10^e:=by
  intro n
  induction n using Nat.strongRecOn with
  |_ n ih=>
    intro e;rw[Go.Lib.decDigits];by_cases h:n<10
    · rw[dif_pos h];simp only[dV,List.length_singleton,u8_dig n h,Nat.add_zero];rw[show 48+n-48=n by omega,show 1+e-1=e by omega]
    · rw[dif_neg h,List.length_append,List.length_singleton,dV_snoc _ _ _ (by omega),Nat.add_assoc,ih (n/10) (by omega) (1+e),u8_dig (n%10) (by omega),
        show(Go.Lib.decDigits (n/10)).length+(1+e)-(Go.Lib.decDigits (n/10)).length-1=e by omega,Nat.pow_add,Nat.pow_one,show 48+n%10-48=n%10 by omega]
      have:n=n/10*10+n%10:=by omega
      conv=>rhs;rw[this,Nat.add_mul,Nat.mul_assoc]
theorem dg_low(n:Nat)(h:0<n):10^((Go.Lib.decDigits n).length-1)≤n:=by
 induction n using Nat.strongRecOn with
 |_ n ih=>
  rw[Go.Lib.decDigits];by_cases g:n<10
  ·rw[dif_pos g];simp;omega
  ·rw[dif_neg g,List.length_append,List.length_singleton,Nat.add_sub_cancel];have:=ih (n/10) (by omega) (by omega);have hl:1≤(Go.Lib.decDigits (n/10)).length:=by
    cases q:Go.Lib.decDigits (n/10)with
    |nil=>exact absurd q (dg_ne _)
    |cons a b=>simp
   obtain⟨S,hS⟩:∃S,(Go.Lib.decDigits (n/10)).length=S+1:=⟨(Go.Lib.decDigits (n/10)).length-1,by omega⟩;rw[hS,Nat.add_sub_cancel]at this;rw[hS,Nat.pow_succ];omega
theorem dg_high(n:Nat):n<10^(Go.Lib.decDigits n).length:=by have:=dV_lt (Go.Lib.decDigits n) _ (dg_D n) (Nat.le_refl _);have h:=dg_V n 0;rw[Nat.add_zero,Nat.pow_zero,Nat.mul_one]at h;rw[h]at this;exact this
theorem more_iff(m n a b:Nat)(hm:m%10≠0)(hn:0<n):(if(Go.Lib.decDigits m).length+a=(Go.Lib.decDigits n).length+b then Op.bytesLess (Go.Lib.decDigits n) (Go.Lib.decDigits m)else decide ((Go.Lib.decDigits m).length+a>(Go.Lib.decDigits n).length+b))=decide (m*10^a>n*10^b):=by
 have l1:1≤(Go.Lib.decDigits m).length:=by
  cases q:Go.Lib.decDigits m with
  |nil=>exact absurd q (dg_ne _)
  |cons a b=>simp
 have l2:1≤(Go.Lib.decDigits n).length:=by
  cases q:Go.Lib.decDigits n with
  |nil=>exact absurd q (dg_ne _)
  |cons a b=>simp
 have key:∀(x y c d:Nat),0<x→1≤(Go.Lib.decDigits x).length→(Go.Lib.decDigits y).length+d<(Go.Lib.decDigits x).length+c→y*10^d<x*10^c:=by
  intro x y c d hx hl h;have h1:=dg_low x hx;have h2:=dg_high y;have h3:y*10^d<10^((Go.Lib.decDigits y).length+d):=by rw[Nat.pow_add];exact Nat.mul_lt_mul_of_pos_right h2 (Nat.pow_pos (by omega))
  have h4:10^((Go.Lib.decDigits x).length-1+c)≤x*10^c:=by rw[Nat.pow_add];exact Nat.mul_le_mul_right _ h1
  have h5:10^((Go.Lib.decDigits y).length+d)≤10^((Go.Lib.decDigits x).length-1+c):=Nat.pow_le_pow_right (by omega) (by omega);omega
 by_cases e:(Go.Lib.decDigits m).length+a=(Go.Lib.decDigits n).length+b
 ·rw[if_pos e];have v1:=dg_V m a;have v2:=dg_V n b;rw[←e]at v2;cases h:Op.bytesLess (Go.Lib.decDigits n) (Go.Lib.decDigits m)with
  |true=> have:=less_lt _ _ ((Go.Lib.decDigits m).length+a) (dg_D m) (dg_D n) (dg_Z m hm) (by omega) (by omega) h;rw[v1,v2]at this;exact(decide_eq_true this).symm
  |false=> have:=less_le _ _ ((Go.Lib.decDigits m).length+a) (dg_D m) (dg_D n) (by omega) (by omega) h;rw[v1,v2]at this;exact(decide_eq_false (by omega)).symm
 ·rw[if_neg e];by_cases g:(Go.Lib.decDigits m).length+a>(Go.Lib.decDigits n).length+b
  ·rw[decide_eq_true g,decide_eq_true (key m n a b (by omega) l1 g)]
  ·have:=key n m b a hn l2 (by omega);rw[decide_eq_false g,decide_eq_false (by omega)]
def dgB(n:Nat):ByteArray:=⟨(Go.Lib.decDigits n).toArray⟩
theorem dgB_list(n:Nat):(dgB n).toList=Go.Lib.decDigits n:=by unfold dgB;rw[ByteArray.toList_eq]
theorem Xef(n:Nat):(dgB n).size=(Go.Lib.decDigits n).length:=by unfold dgB;simp[ByteArray.size]
theorem one_byte(d:Nat)(h:d<10):strOfNums ([(IntKind.u64.wrap (48+(d:Int)))%256]:List Int)=⟨([UInt8.ofNat (48+d)]:List UInt8).toArray⟩:=by
 have h9:d=0∨d=1∨d=2∨d=3∨d=4∨d=5∨d=6∨d=7∨d=8∨d=9:=by omega
 rcases h9 with h|h|h|h|h|h|h|h|h|h<;>(subst h;rfl)
theorem dg_len(n:Nat)(h:n<10^20):(Go.Lib.decDigits n).length≤20:=by
 rcases Nat.eq_zero_or_pos n with h0|h0
 ·subst h0;decide+kernel
 ·have:=dg_low n h0;rcases Nat.lt_or_ge (Go.Lib.decDigits n).length 21 with g|g
  ·omega
  ·have h2:10^20≤10^((Go.Lib.decDigits n).length-1):=Nat.pow_le_pow_right (by omega) (by omega);omega
theorem u64_small{z:Int}(h0:0≤z)(h1:z<18446744073709551616):IntKind.u64.wrap z=z:=by unfold IntKind.wrap;simp only[IntKind.signed,IntKind.bits,Bool.false_and,Bool.false_eq_true,if_false];omega
theorem digits_ev(n:Nat)(h:n<10^19):Ev (fun k=>deckleref06_digits.f k (n:Int)) (dgB n):=by
 induction n using Nat.strongRecOn with
 |_ n ih=>
  refine Ev.succ ?_;simp only[deckleref06_digits.f];unfold dgB;rw[Go.Lib.decDigits];by_cases g:n<10
  ·rw[dif_pos g];simp only[if_pos (show(n:Int)<10 by omega),one_byte n g];exact Ev.const _
  ·rw[dif_neg g];have e1:IntKind.u64.wrap (Int.tdiv (n:Int) 10)=((n/10:Nat):Int):=by rw[Int.tdiv_eq_ediv_of_nonneg (by omega),u64_small (by omega) (by omega)];omega
   have e2:Int.tmod (n:Int) 10=((n%10:Nat):Int):=by rw[Int.tmod_eq_emod_of_nonneg (by omega)];omega
   simp only[if_neg (show¬(n:Int)<10 by omega),e1,e2];refine Ev.bind (ih (n/10) (by omega) (by omega)) ?_;have hl:=dg_len (n/10) (by omega);simp only[Option.bind_some,one_byte (n%10) (by omega)];rw[if_pos (by rw[Xef];simp[ByteArray.size];omega)];have:dgB (n/10)++(⟨([UInt8.ofNat (48+n%10)]:List UInt8).toArray⟩:ByteArray)=⟨(Go.Lib.decDigits (n/10)++[UInt8.ofNat (48+n%10)]).toArray⟩:=by apply ByteArray.ext;simp[dgB,ByteArray.data_append]
   rw[this];exact Ev.const _
theorem size_pos(m:Int)(h:In64 m)(h0:0≤m):Xb6.f m=some m:=by unfold In64 at h;unfold Xb6.f;rw[if_neg (by omega),u64_small h0 (by omega)]
theorem rmore_ev(m n:Nat)(a b:Int)(h1:m<10^19)(h2:n<10^19)(g1:In64 (m:Int))(g2:In64 (n:Int))(ha: -40000≤a∧a≤40000)(hb: -40000≤b∧b≤40000):Ev (fun k=>Xby.f k (m:Int) a (n:Int) b)
  (if((Go.Lib.decDigits m).length:Int)+a=((Go.Lib.decDigits n).length:Int)+b then Op.bytesLess (Go.Lib.decDigits n) (Go.Lib.decDigits m)else decide (((Go.Lib.decDigits m).length:Int)+a>((Go.Lib.decDigits n).length:Int)+b)):=by
 have l1:=dg_len m (by omega);have l2:=dg_len n (by omega);simp only[Xby.f,size_pos (m:Int) g1 (by omega),size_pos (n:Int) g2 (by omega),Option.bind_some];refine Ev.bind (digits_ev m h1) ?_;refine Ev.bind (digits_ev n h2) ?_;rw[Xef,Xef,dgB_list,dgB_list,w64 (by omega) (by omega),w64 (by omega) (by omega)];by_cases e:((Go.Lib.decDigits m).length:Int)+a=((Go.Lib.decDigits n).length:Int)+b
 ·simp only[if_pos e];exact Ev.const _
 ·simp only[if_neg e];exact Ev.const _
def Xdn(m n:Nat)(a b:Int):Bool:=if((Go.Lib.decDigits m).length:Int)+a=((Go.Lib.decDigits n).length:Int)+b then Op.bytesLess (Go.Lib.decDigits n) (Go.Lib.decDigits m)else decide (((Go.Lib.decDigits m).length:Int)+a>((Go.Lib.decDigits n).length:Int)+b)
theorem less_self:∀x:List UInt8,Op.bytesLess x x=false
 |[]=>rfl
 |a::x=>by
  rw[Op.bytesLess,less_self x,Bool.and_false,Bool.or_false];exact decide_eq_false (fun h=>Nat.lt_irrefl a.toNat h)
theorem moreS_self(m:Nat)(a:Int):Xdn m m a a=false:=by unfold Xdn;rw[if_pos rfl];exact less_self _
theorem moreS_nat(m n a b:Nat)(hm:m%10≠0)(hn:0<n):Xdn m n (a:Int) (b:Int)=decide (m*10^a>n*10^b):=by
 rw[←more_iff m n a b hm hn];unfold Xdn;by_cases e:(Go.Lib.decDigits m).length+a=(Go.Lib.decDigits n).length+b
 ·rw[if_pos e,if_pos (by omega)]
 ·rw[if_neg e,if_neg (by omega)];exact decide_eq_decide.mpr (by omega)
theorem Xem{m a:Int}(h:Ev (fun k=>Xl.f k m a) true){n b:Int}(g:Ev (fun k=>Xl.f k n b) true){v:Int}(e:Ev (fun k=>Xi.j1 k m a n b) v):Ev (fun k=>Xi.f k m a n b) v:=by simp only[Xi.f];refine Ev.bind h ?_;simp only[if_true];refine Ev.succ ?_;simp only[Xi.j0];refine Ev.bind g ?_;simp only[if_true];exact e
theorem rcmp_pp(m n:Nat)(a b:Int)(hm:0<m)(hn:0<n)(h1:In64 (m:Int))(h2:In64 (n:Int))(ha: -40000≤a∧a≤40000)(hb: -40000≤b∧b≤40000)(r1:Ev (fun k=>Xl.f k m a) true)(r2:Ev (fun k=>Xl.f k n b) true):
    ∃c,Ev (fun k=>Xi.f k m a n b) c∧decide (c≤0)= !Xdn m n a b:=by
  by_cases e:(m:Int)=(n:Int)∧a=b
  · obtain⟨e1,e2⟩:=e;have e3:m=n:=by omega
    subst e3;subst e2;refine⟨0,Xem r1 r2 (Ev.succ ?_),by rw[moreS_self];rfl⟩;simp only[Xi.j1,BEq.rfl,Bool.and_self,if_true];exact Ev.const _
  · have hb0:((m:Int)==(n:Int)&&(a==b))=false:=by
      by_cases q:(m:Int)=(n:Int)
      · rw[beq_iff_eq.mpr q,Bool.true_and];exact beq_eq_false_iff_ne.mpr (fun z=>e ⟨q,z⟩)
      · rw[beq_eq_false_iff_ne.mpr q,Bool.false_and]
    have hm':=rmore_ev m n a b (by unfold In64 at h1;omega) (by unfold In64 at h2;omega) h1 h2 ha hb;change Ev (fun k=>Xby.f k (m:Int) a (n:Int) b) (Xdn m n a b)at hm';refine⟨if Xdn m n a b=true then 1 else -1,Xem r1 r2 (Ev.succ ?_),by cases Xdn m n a b<;>rfl⟩;simp only[Xi.j1,hb0,Bool.false_eq_true,if_false,if_neg (show¬(m:Int)<0 by omega)];refine Ev.succ ?_;simp only[Xi.j2,Bool.false_eq_true,if_false,if_neg (show¬(m:Int)<0 by omega),decide_eq_false (show¬(n:Int)<0 by omega)];refine Ev.succ ?_;simp only[Xi.j3,Bool.false_eq_true,if_false,if_neg (show¬(m:Int)=0 by omega),beq_eq_false_iff_ne.mpr (show(n:Int)≠0 by omega)];refine Ev.succ ?_;simp only[Xi.j4,Bool.false_eq_true,if_false];refine Ev.bind hm' ?_;cases Xdn m n a b with
    |true=>simp only[if_true];exact Ev.const _
    |false=>simp only[Bool.false_eq_true,if_false];exact Ev.const _
theorem rcmp_neg{m a n b:Int}(hm:0≤m)(hn:n<0)(r1:Ev (fun k=>Xl.f k m a) true)(r2:Ev (fun k=>Xl.f k n b) true):Ev (fun k=>Xi.f k m a n b) 1:=by refine Xem r1 r2 (Ev.succ ?_);simp only[Xi.j1,beq_eq_false_iff_ne.mpr (show m≠n by omega),Bool.false_and,Bool.false_eq_true,if_false,if_neg (show¬m<0 by omega)];refine Ev.succ ?_;simp only[Xi.j2,Bool.false_eq_true,if_false,if_neg (show¬m<0 by omega),decide_eq_true hn];refine Ev.succ ?_;simp only[Xi.j3,if_true,if_pos hn];exact Ev.const _
theorem rcmp_npos{m a n b:Int}(hm:m<0)(hn:0<n)(r1:Ev (fun k=>Xl.f k m a) true)(r2:Ev (fun k=>Xl.f k n b) true):Ev (fun k=>Xi.f k m a n b) (-1):=by refine Xem r1 r2 (Ev.succ ?_);simp only[Xi.j1,beq_eq_false_iff_ne.mpr (show m≠n by omega),Bool.false_and,Bool.false_eq_true,if_false,if_pos hm,decide_eq_false (show¬n<0 by omega)];refine Ev.succ ?_;simp only[Xi.j2,Bool.false_eq_true,if_false,if_pos hm];refine Ev.succ ?_;simp only[Xi.j3,if_true,if_neg (show¬n<0 by omega)];exact Ev.const _
theorem rcmp_0p{a n b:Int}(hn:0<n)(r1:Ev (fun k=>Xl.f k 0 a) true)(r2:Ev (fun k=>Xl.f k n b) true):Ev (fun k=>Xi.f k 0 a n b) (-1):=by refine Xem r1 r2 (Ev.succ ?_);simp only[Xi.j1,beq_eq_false_iff_ne.mpr (show(0:Int)≠n by omega),Bool.false_and,Bool.false_eq_true,if_false,if_neg (show¬(0:Int)<0 by omega)];refine Ev.succ ?_;simp only[Xi.j2,Bool.false_eq_true,if_false,if_neg (show¬(0:Int)<0 by omega),decide_eq_false (show¬n<0 by omega)];refine Ev.succ ?_;simp only[Xi.j3,Bool.false_eq_true,if_false,if_true];refine Ev.succ ?_;simp only[Xi.j4,if_true,if_neg (show¬n=0 by omega)];exact Ev.const _
theorem rcmp_p0{m a b:Int}(hm:0<m)(r1:Ev (fun k=>Xl.f k m a) true)(r2:Ev (fun k=>Xl.f k 0 b) true):Ev (fun k=>Xi.f k m a 0 b) 1:=by refine Xem r1 r2 (Ev.succ ?_);simp only[Xi.j1,beq_eq_false_iff_ne.mpr (show m≠(0:Int) by omega),Bool.false_and,Bool.false_eq_true,if_false,if_neg (show¬m<0 by omega)];refine Ev.succ ?_;simp only[Xi.j2,Bool.false_eq_true,if_false,if_neg (show¬m<0 by omega),decide_eq_false (show¬(0:Int)<0 by omega)];refine Ev.succ ?_;simp only[Xi.j3,Bool.false_eq_true,if_false,if_neg (show¬m=0 by omega),BEq.rfl];refine Ev.succ ?_;simp only[Xi.j4,if_true];exact Ev.const _
theorem rcmp_00(r1:Ev (fun k=>Xl.f k 0 0) true):Ev (fun k=>Xi.f k 0 0 0 0) 0:=by refine Xem r1 r1 (Ev.succ ?_);simp only[Xi.j1,BEq.rfl,Bool.and_self,if_true];exact Ev.const _
theorem norm_up:∀(k:Nat)(m e:Int)(r:Int×Int×Bool),X8.l0 k m e=some r→ -9223372036854775808≤e→r.2.2=true→e≤r.2.1:=by
 intro k
 induction k with
 |zero=>intro m e r h;simp[X8.l0]at h
 |succ k ih=>
  intro m e r h h0 h1;simp only[X8.l0]at h;have stop:(if e< -32768 then some (0,0,false)else if e>32767 then some (0,0,false)else some (m,e,true))=some r→e≤r.2.1:=fun h=>by
   by_cases c1:e< -32768
   ·rw[if_pos c1]at h;obtain rfl:=Option.some.inj h;exact absurd h1 (by simp)
   ·rw[if_neg c1]at h;by_cases c2:e>32767
    ·rw[if_pos c2]at h;obtain rfl:=Option.some.inj h;exact absurd h1 (by simp)
    ·rw[if_neg c2]at h;obtain rfl:=Option.some.inj h;exact Int.le_refl _
  by_cases c:Int.tmod m 10=0
  ·rw[if_pos c]at h;by_cases c2:e≤32767
   ·rw[if_pos c2,w64 (n:=e+1) (by omega) (by omega)]at h;have:=ih _ _ r h (by omega) h1;omega
   ·rw[if_neg c2]at h;exact stop h
  ·rw[if_neg c]at h;exact stop h
theorem dr_true(y:S35)(h:OkE y)(g:dr y=true):(y.f0=0∧y.f1=0)∨(y.f0≠0∧Int.tmod y.f0 10≠0∧ -32768≤y.f1∧y.f1≤32767):=by
 have he:=Xe8 y h.d;rw[g]at he;obtain⟨k,hk⟩:=he.get;simp only[Xaa.f]at hk;obtain⟨r,h1,h2⟩:=Option.bind_eq_some_iff.mp hk;by_cases c:r.2.2=true
 ·rw[if_pos c]at h2;have h3:=Option.some.inj h2;rw[Bool.and_eq_true]at h3;have e1:=beq_iff_eq.mp h3.1;have e2:=beq_iff_eq.mp h3.2;simp only[X8.f]at h1;by_cases z:y.f0=0
  ·rw[if_pos z]at h1;obtain rfl:=Option.some.inj h1;exact .inl ⟨z,e2.symm⟩
  ·rw[if_neg z]at h1;refine .inr ⟨z,?_⟩;have hb:=h.2;unfold In64 at hb;cases k with
   |zero=>simp[X8.l0]at h1
   |succ k=>
    simp only[X8.l0]at h1;by_cases t:Int.tmod y.f0 10=0
    ·rw[if_pos t]at h1;by_cases b:y.f1≤32767
     ·rw[if_pos b,w64 (n:=y.f1+1) (by omega) (by omega)]at h1;have:=norm_up k _ _ r h1 (by omega) c;omega
     ·rw[if_neg b,if_neg (by omega),if_pos (by omega)]at h1;obtain rfl:=Option.some.inj h1;exact absurd c (by simp)
    ·rw[if_neg t]at h1;by_cases b1:y.f1< -32768
     ·rw[if_pos b1]at h1;obtain rfl:=Option.some.inj h1;exact absurd c (by simp)
     ·rw[if_neg b1]at h1;by_cases b2:y.f1>32767
      ·rw[if_pos b2]at h1;obtain rfl:=Option.some.inj h1;exact absurd c (by simp)
      ·exact⟨t,by omega,by omega⟩
 ·rw[if_neg c]at h2;exact absurd (Option.some.inj h2) (by simp)
theorem whl_val:∀(k:Nat)(n:Int)(j i:Nat)(v:Int),i≤j→In64 n→Xq.l0 k n (j:Int) (i:Int)=some (v,true)→j≤18→v=n*10^(j-i)∧In64 v:=by
  intro k
  induction k with
  |zero=>intro n j i v _ _ h;simp[Xq.l0]at h
  |succ k ih=>
    intro n j i v hi hn h hj;simp only[Xq.l0]at h;by_cases c:(i:Int)<(j:Int)
    · rw[if_pos c]at h;by_cases g: -922337203685477580≤n∧n≤922337203685477580
      · have e:wrap64 (n*10)=n*10:=w64 (by omega) (by omega);have hw:wrap64 ((i:Int)+1)=((i+1:Nat):Int):=by rw[w64 (by omega) (by omega)];omega
        have e2:wrap64 (Int.tdiv (wrap64 (n*10)) 10)=n:=by rw[e,Int.mul_tdiv_cancel _ (by decide)];unfold In64 at hn;exact w64 hn.1 hn.2
        rw[if_pos e2,e,hw]at h;obtain⟨h1,h2⟩:=ih (n*10) j (i+1) v (by omega) (by unfold In64;omega) h hj;refine⟨?_,h2⟩;rw[h1,Int.mul_assoc];congr 1;rw[show j-i=(j-(i+1))+1 by omega,Int.pow_succ,Int.mul_comm]
      · have e2:¬wrap64 (Int.tdiv (wrap64 (n*10)) 10)=n:=by have ht:=tdiv_small (In64.wrap (n*10));rw[w64 (by omega) (by omega)];omega
        rw[if_neg e2]at h;exact absurd (congrArg Prod.snd (Option.some.inj h)) (by simp)
    · rw[if_neg c]at h;have:=congrArg Prod.fst (Option.some.inj h);simp only at this;rw[show j-i=0 by omega,Int.pow_zero,Int.mul_one];exact⟨this.symm,this▸hn⟩
theorem wh_true(y:S35)(h:OkE y)(g:dr y=true)(w:(wh y).2=true):OfI (wh y).1 y:=by
 have he:=(wh_ev y h).1;have hr:=Xe8 y h.d;rw[g]at hr;have hd:=dr_true y h g;obtain⟨v,hv⟩:∃v,wh y=(v,true):=⟨(wh y).1,Prod.ext rfl w⟩;rw[hv]at he⊢;simp only;have key:∀j:Nat,y.f1=(j:Int)→j≤18→OfI v y:=fun j hj h18=>by
  have h1:Ev (fun k=>Xq.f k y.f0 y.f1) (v,true):=he;obtain⟨k0,q0⟩:=h1;obtain⟨k1,q1⟩:=hr;have hk:=q0 (k0+k1+2) (by omega);have hr1:=q1 (k0+k1+2) (by omega);simp only[Xq.f,hr1,Option.bind_some,if_true,if_neg (show¬y.f1<0 by omega),decide_eq_false (show¬y.f1>18 by omega),Xq.j0,Bool.false_eq_true,if_false]at hk;rw[hj]at hk;obtain⟨v1,v2⟩:=whl_val _ y.f0 j 0 v (by omega) h.1 hk h18;rw[Nat.sub_zero]at v1;refine⟨j,hj,h18,v1.symm,fun z=>?_,fun z=>?_⟩
  ·rcases hd with⟨d1,d2⟩|⟨d1,d2,_⟩
   ·exact⟨d1,by omega⟩
   ·exfalso;have hp:(10:Int)^j≠0:=Int.pow_ne_zero (by decide);exact(Int.mul_ne_zero d1 hp) (v1▸z)
  ·rcases hd with⟨d1,d2⟩|⟨d1,d2,_⟩
   ·rw[d1,Int.zero_mul]at v1;exact absurd v1 z
   ·exact⟨d1,d2⟩
 by_cases c1:y.f1<0
 ·exfalso;obtain⟨k0,q0⟩:=he;obtain⟨k1,q1⟩:=hr;have hk:=q0 (k0+k1+2) (by omega);have hr1:=q1 (k0+k1+2) (by omega);simp only[Xq.f,hr1,Option.bind_some,if_true,if_pos c1,Xq.j0]at hk;exact absurd (congrArg Prod.snd (Option.some.inj hk)) (by simp)
 ·by_cases c2:y.f1>18
  ·exfalso;obtain⟨k0,q0⟩:=he;obtain⟨k1,q1⟩:=hr;have hk:=q0 (k0+k1+2) (by omega);have hr1:=q1 (k0+k1+2) (by omega);simp only[Xq.f,hr1,Option.bind_some,if_true,if_neg c1,decide_eq_true c2,Xq.j0]at hk;exact absurd (congrArg Prod.snd (Option.some.inj hk)) (by simp)
  ·exact key y.f1.toNat (by omega) (by omega)
theorem itoa_pos(m:Nat)(h:In64 (m:Int)):Xcr.f (m:Int)=some (dgB m):=by unfold Xcr.f;rw[if_pos (show -9223372036854775808≤(m:Int)∧(m:Int)≤9223372036854775807 from h),Go.Lib.itoa_nonneg];rfl
theorem digits_pos(m:Nat)(h:In64 (m:Int)):Xck.f (m:Int)=some (dgB m):=by
 unfold Xck.f;rw[itoa_pos m h,Option.bind_some];unfold Xcn.f Xcf.f Xcb.f;have h1:(((⟨#[45]⟩:ByteArray).size:Nat):Int)=1:=rfl;have hl:1≤(Go.Lib.decDigits m).length:=by
  cases q:Go.Lib.decDigits m with
  |nil=>exact absurd q (dg_ne _)
  |cons a b=>simp
 have hs:1≤(dgB m).size:=by rw[Xef];exact hl
 have hne:(((dgB m).extract 0 (1:Int).toNat).toList==(⟨#[45]⟩:ByteArray).toList)=false:=by
  rw[beq_eq_false_iff_ne];intro e;have e2:((dgB m).extract 0 (1:Int).toNat).toList=(dgB m).toList.take 1:=by rw[ByteArray.toList_eq,ByteArray.toList_eq];simp[ByteArray.data_extract]
  rw[e2,dgB_list,ByteArray.toList_eq]at e;have hd:=dg_D m;cases q:Go.Lib.decDigits m with
  |nil=>exact absurd q (dg_ne _)
  |cons a b=>
   rw[q]at e hd;have h45:a=45:=by simpa using e
   have:=hd a List.mem_cons_self;rw[h45]at this;exact absurd this (by decide)
 rw[h1];simp only[if_pos (show((dgB m).size:Int)≥1 by omega),if_pos (show(0:Int)≤1 by decide),if_pos (show(1:Int)≤((dgB m).size:Int) by omega),Option.bind_some,hne,Bool.false_eq_true,if_false]
theorem cmpi_val(a b:Int):Xal.f a b=some (if a<b then -1 else if a>b then 1 else 0):=by
 unfold Xal.f Xbs.f;simp only[Option.bind_some,bne_self_eq_false,Bool.false_eq_true,if_false];by_cases h:a<b
 ·rw[if_pos h,if_pos h]
 ·rw[if_neg h,if_neg h];by_cases g:a>b
  ·rw[if_pos g,if_pos g]
  ·rw[if_neg g,if_neg g]
theorem or_val(a b:Int):Ev (fun k=>Xbe.f k [a,b]) (if a=0 then b else a):=by
 have w1:wrap64 (0+1)=1:=by rw[w64 (by omega) (by omega)];rfl
 have w2:wrap64 (1+1)=2:=by rw[w64 (by omega) (by omega)];rfl
 simp only[Xbe.f,List.length_cons,List.length_nil];by_cases h:a=0
 ·rw[if_pos h];refine Ev.succ ?_;simp only[Xbe.l0,List.length_cons,List.length_nil,if_pos (show(0:Int)<((0+1+1:Nat):Int) by decide),if_pos (show(0:Int)≤0 by decide),show rd [a,b] 0=a from rfl,if_pos h,w1];refine Ev.succ ?_;by_cases g:b=0
  ·simp only[Xbe.l0,List.length_cons,List.length_nil,if_pos (show(1:Int)<((0+1+1:Nat):Int) by decide),if_pos (show(0:Int)≤1 by decide),show rd [a,b] 1=b from rfl,if_pos g,w2];refine Ev.succ ?_;simp only[Xbe.l0,if_neg (show¬(2:Int)<((0+1+1:Nat):Int) by decide),g];exact Ev.const _
  ·simp only[Xbe.l0,List.length_cons,List.length_nil,if_pos (show(1:Int)<((0+1+1:Nat):Int) by decide),if_pos (show(0:Int)≤1 by decide),show rd [a,b] 1=b from rfl,if_neg g];exact Ev.const _
 ·rw[if_neg h];refine Ev.succ ?_;simp only[Xbe.l0,List.length_cons,List.length_nil,if_pos (show(0:Int)<((0+1+1:Nat):Int) by decide),if_pos (show(0:Int)≤0 by decide),show rd [a,b] 0=a from rfl,if_neg h];exact Ev.const _
theorem cmpB:∀x y:List UInt8,(Go.Lib.compareBytes x y= -1∨Go.Lib.compareBytes x y=0∨Go.Lib.compareBytes x y=1)∧(Go.Lib.compareBytes x y=1↔Op.bytesLess y x=true)
 |[],[]=>by simp[Go.Lib.compareBytes,Op.bytesLess]
 |[],_::_=>by simp[Go.Lib.compareBytes,Op.bytesLess]
 |_::_,[]=>by simp[Go.Lib.compareBytes,Op.bytesLess]
 |a::x,b::y=>by
  obtain⟨h1,h2⟩:=cmpB x y;rw[Go.Lib.compareBytes,Op.bytesLess];by_cases c:a<b
  ·rw[if_pos c];have c2:¬b<a:=fun q=>Nat.lt_asymm (show a.toNat<b.toNat from c) q;have c3:(b==a)=false:=beq_eq_false_iff_ne.mpr (fun q=>by rw[q]at c;exact Nat.lt_irrefl _ (show a.toNat<a.toNat from c));rw[decide_eq_false c2,c3];simp
  ·rw[if_neg c];by_cases d:b<a
   ·rw[if_pos d,decide_eq_true d];simp
   ·rw[if_neg d,decide_eq_false d];have e:b=a:=UInt8.toNat_inj.mp (Nat.le_antisymm (Nat.not_lt.mp (show¬a.toNat<b.toNat from c)) (Nat.not_lt.mp (show¬b.toNat<a.toNat from d)));rw[beq_iff_eq.mpr e,Bool.true_and,Bool.false_or];exact⟨h1,h2⟩
theorem above_pos(m n:Nat)(a b:Int)(h1:In64 (m:Int))(h2:In64 (n:Int))(ha: -40000≤a∧a≤40000)(hb: -40000≤b∧b≤40000):∃c:Int,(c= -1∨c=0∨c=1)∧Ev (fun k=>decimal_above.f k (m:Int) a (n:Int) b) c∧(c≤0↔Xdn m n a b=false):=by
 have l1:=dg_len m (by unfold In64 at h1;omega);have l2:=dg_len n (by unfold In64 at h2;omega);have hs:Xcq.f (dgB m) (dgB n)=some (Go.Lib.compareBytes (Go.Lib.decDigits m) (Go.Lib.decDigits n)):=by unfold Xcq.f Xcm.f;rfl
 have e1:∀P Q:Int,P=wrap64 (((dgB m).size:Int)+a)→Q=wrap64 (((dgB n).size:Int)+b)→Ev (fun k=>decimal_above.f k (m:Int) a (n:Int) b) (if(if P<Q then(-1:Int)else if P>Q then 1 else 0)=0 then Go.Lib.compareBytes (Go.Lib.decDigits m) (Go.Lib.decDigits n)else(if P<Q then(-1:Int)else if P>Q then 1 else 0)):=fun P Q hP hQ=>by
  rw[hP,hQ];simp only[decimal_above.f,digits_pos m h1,digits_pos n h2,Option.bind_some,cmpi_val,hs];exact Ev.bind (or_val _ _) (Ev.const _)
 replace e1:=e1 _ _ rfl rfl;rw[Xef,Xef,w64 (n:=((Go.Lib.decDigits m).length:Int)+a) (by omega) (by omega),w64 (n:=((Go.Lib.decDigits n).length:Int)+b) (by omega) (by omega)]at e1;have t:=cmpB (Go.Lib.decDigits m) (Go.Lib.decDigits n);unfold Xdn;generalize Go.Lib.compareBytes (Go.Lib.decDigits m) (Go.Lib.decDigits n)=c at t e1;obtain⟨t1,t2⟩:=t;generalize ((Go.Lib.decDigits m).length:Int)+a=P at e1⊢;generalize ((Go.Lib.decDigits n).length:Int)+b=Q at e1⊢;by_cases q:P=Q
 ·have e2:(if P<Q then(-1:Int)else if P>Q then 1 else 0)=0:=by rw[if_neg (by omega),if_neg (by omega)]
  rw[if_pos e2]at e1;refine⟨c,t1,e1,?_⟩;rw[if_pos q];cases z:Op.bytesLess (Go.Lib.decDigits n) (Go.Lib.decDigits m)with
  |true=>have:=t2.mpr z;exact⟨fun y=>by omega,fun y=>absurd y (by simp)⟩
  |false=>
   have:c≠1:=fun y=>by rw[t2.mp y]at z;exact Bool.noConfusion z
   exact⟨fun _=>rfl,fun _=>by omega⟩
 ·by_cases g:P<Q
  ·rw[if_pos g,if_neg (by decide)]at e1;refine⟨-1,.inl rfl,e1,?_⟩;rw[if_neg q,decide_eq_false (show¬P>Q by omega)];exact⟨fun _=>rfl,fun _=>by decide⟩
  ·rw[if_neg g,if_pos (show P>Q by omega),if_neg (by decide)]at e1;refine⟨1,.inr (.inr rfl),e1,?_⟩;rw[if_neg q,decide_eq_true (show P>Q by omega)];exact⟨fun y=>absurd y (by decide),fun y=>absurd y (by simp)⟩
theorem small8:Ev (fun k=>Xaa.f k 1 (-8)) true:=
 ⟨60,fun k hk=>Xc3 (g:=fun k=>Xaa.f k 1 (-8)) (fun k=>Xaa.mono _ _ k) hk (by decide+kernel)⟩
theorem dcmp8(y:S35)(h:OkE y)(g:dr y=true)(h0:0≤y.f0):∃c,Ev (fun k=>X5.f k y.f0 y.f1 1 (-8)) c∧(c≤0↔(y.f0=0∨Xdn y.f0.toNat 1 y.f1 (-8)=false)):=by
 have hr:=Xe8 y h.d;rw[g]at hr;have hd:=dr_true y h g;have start:∀c,Ev (fun k=>X5.j1 k y.f0 y.f1 1 (-8)) c→Ev (fun k=>X5.f k y.f0 y.f1 1 (-8)) c:=fun c hc=>by
  simp only[X5.f];refine Ev.bind hr ?_;simp only[if_true];refine Ev.succ ?_;simp only[X5.j0];refine Ev.bind small8 ?_;simp only[if_true];exact hc
 by_cases z:y.f0=0
 ·refine⟨-1,start _ (Ev.succ ?_),⟨fun _=>.inl z,fun _=>by decide⟩⟩;simp only[X5.j1,cmpi_val,z,Option.bind_some];exact Ev.const _
 ·obtain⟨m,hm⟩:∃m:Nat,y.f0=(m:Int):=⟨y.f0.toNat,by omega⟩;have hb: -40000≤y.f1∧y.f1≤40000:=by omega
  obtain⟨c,c1,c2,c3⟩:=above_pos m 1 y.f1 (-8) (by have:=h.1;rw[hm]at this;exact this) (by unfold In64;omega) hb (by omega);refine⟨c,start _ (Ev.succ ?_),?_⟩
  ·simp only[X5.j1,cmpi_val,hm,Option.bind_some,if_neg (show¬(m:Int)<0 by omega),if_pos (show(m:Int)>0 by omega),if_neg (show¬(1:Int)<0 by decide),if_pos (show(1:Int)>0 by decide),if_true,if_neg (show¬(1:Int)=0 by decide)];have e:wrap64 (1*c)=c:=by rw[Int.one_mul];exact w64 (by omega) (by omega)
   refine Ev.bind c2 ?_;rw[e];exact Ev.const _
  ·rw[hm,Int.toNat_natCast,c3];exact⟨fun y=>.inr y,fun y=>y.elim (fun q=>by omega) id⟩
theorem lowC(y:S35)(h:OkE y)(g:dr y=true)(m:Nat)(a:Int)(hm:m≤1000)(ha:0≤a∧a≤10)(hz:m=0→a=0)(rl:Ev (fun k=>Xl.f k (m:Int) a) true):∃c,Ev (fun k=>Xi.f k (m:Int) a y.f0 y.f1) c∧(c≤0↔(0≤y.f0∧(m=0∨(y.f0≠0∧Xdn m y.f0.toNat a y.f1=false)))):=by
 have hr:=rdr_ev y h.d;rw[g]at hr;have hd:=dr_true y h g;have h1:=h.1;generalize y.f0=x at hr hd h1⊢;generalize y.f1=e at hr hd⊢;by_cases c1:x<0
 ·exact⟨1,rcmp_neg (by omega) c1 rl hr,⟨fun q=>absurd q (by decide),fun q=>by omega⟩⟩
 ·by_cases c2:x=0
  ·have e1:e=0:=by omega
   subst c2;subst e1;by_cases c3:m=0
   ·have:=hz c3;subst c3;subst this;exact⟨0,rcmp_00 hr,⟨fun _=>⟨Int.le_refl _,.inl rfl⟩,fun _=>Int.le_refl _⟩⟩
   ·exact⟨1,rcmp_p0 (by omega) rl hr,⟨fun q=>absurd q (by decide),fun q=>q.2.elim (fun z=>absurd z c3) (fun z=>absurd rfl z.1)⟩⟩
  ·obtain⟨n,rfl⟩:∃n:Nat,x=(n:Int):=⟨x.toNat,by omega⟩;by_cases c3:m=0
   ·have:=hz c3;subst c3;subst this;exact⟨-1,rcmp_0p (by omega) rl hr,⟨fun _=>⟨by omega,.inl rfl⟩,fun _=>by decide⟩⟩
   ·obtain⟨c,q1,q2⟩:=rcmp_pp m n a e (by omega) (by omega) (by unfold In64;omega) h1 (by omega) (by omega) rl hr;refine⟨c,q1,?_⟩;rw[Int.toNat_natCast];constructor
    ·intro z;rw[decide_eq_true z]at q2;exact⟨by omega,.inr ⟨c2,by cases w:Xdn m n a e with|true=>rw[w]at q2;exact absurd q2 (by decide)|false=>rfl⟩⟩
    ·intro z;have w:=(z.2.resolve_left c3).2;rw[w]at q2;exact of_decide_eq_true q2
theorem highC(y:S35)(h:OkE y)(g:dr y=true)(n:Nat)(b:Int)(hn:0<n)(hn2:n≤2147483647)(hb: -10≤b∧b≤10)(rh:Ev (fun k=>Xl.f k (n:Int) b) true):∃c,Ev (fun k=>Xi.f k y.f0 y.f1 (n:Int) b) c∧(c≤0↔(y.f0≤0∨Xdn y.f0.toNat n y.f1 b=false)):=by
 have hr:=rdr_ev y h.d;rw[g]at hr;have hd:=dr_true y h g;have h1:=h.1;generalize y.f0=x at hr hd h1⊢;generalize y.f1=e at hr hd⊢;by_cases c1:x<0
 ·exact⟨-1,rcmp_npos c1 (by omega) hr rh,⟨fun _=>.inl (by omega),fun _=>by decide⟩⟩
 ·by_cases c2:x=0
  ·subst c2;exact⟨-1,rcmp_0p (by omega) hr rh,⟨fun _=>.inl (Int.le_refl _),fun _=>by decide⟩⟩
  ·obtain⟨m,rfl⟩:∃m:Nat,x=(m:Int):=⟨x.toNat,by omega⟩;obtain⟨c,q1,q2⟩:=rcmp_pp m n e b (by omega) hn h1 (by unfold In64;omega) (by omega) (by omega) hr rh;refine⟨c,q1,?_⟩;rw[Int.toNat_natCast];constructor
   ·intro z;rw[decide_eq_true z]at q2;exact .inr (by cases w:Xdn m n e b with|true=>rw[w]at q2;exact absurd q2 (by decide)|false=>rfl)
   ·intro z;have w:=z.resolve_left (by omega);rw[w]at q2;exact of_decide_eq_true q2
theorem low_whole(y:S35)(v:Int)(o:OfI v y)(m a:Nat)(hm:m=0∨m%10≠0):(0≤y.f0∧(m=0∨(y.f0≠0∧Xdn m y.f0.toNat (a:Int) y.f1=false)))↔((m*10^a:Nat):Int)≤v:=by
 obtain⟨j,e1,e2,e3,e4,e5⟩:=o;have hp:(0:Int)<10^j:=Int.pow_pos (by decide);rw[e1];by_cases c1:y.f0<0
 ·have:v<0:=by rw[←e3];exact Int.mul_neg_of_neg_of_pos c1 hp
  constructor
  ·intro q;omega
  ·intro q;omega
 ·by_cases c2:y.f0=0
  ·have hv:v=0:=by rw[←e3,c2,Int.zero_mul]
   rw[hv];constructor
   ·intro q;have:=q.2.resolve_right (fun z=>z.1 c2);rw[this,Nat.zero_mul];exact Int.le_refl _
   ·intro q;refine⟨by omega,.inl ?_⟩;have h0:m*10^a=0:=by omega
    rcases Nat.mul_eq_zero.mp h0 with z|z
    ·exact z
    ·exact absurd z (Nat.ne_of_gt (Nat.pow_pos (by omega)))
  ·obtain⟨n,hn⟩:∃n:Nat,y.f0=(n:Int):=⟨y.f0.toNat,by omega⟩;have hv:v=((n*10^j:Nat):Int):=by rw[←e3,hn];push_cast;rfl
   rw[hn,Int.toNat_natCast,hv];by_cases c3:m=0
   ·subst c3;rw[Nat.zero_mul];exact⟨fun _=>by omega,fun _=>⟨by omega,.inl rfl⟩⟩
   ·rw[moreS_nat m n a j (hm.resolve_left c3) (by omega)];constructor
    ·intro q;have:=of_decide_eq_false (q.2.resolve_left c3).2;omega
    ·intro q;exact⟨by omega,.inr ⟨by omega,decide_eq_false (by omega)⟩⟩
theorem high_whole(y:S35)(v:Int)(o:OfI v y)(n b:Nat)(hn:0<n):(y.f0≤0∨Xdn y.f0.toNat n y.f1 (b:Int)=false)↔v≤((n*10^b:Nat):Int):=by
 obtain⟨j,e1,e2,e3,e4,e5⟩:=o;have hp:(0:Int)<10^j:=Int.pow_pos (by decide);rw[e1];by_cases c1:y.f0≤0
 ·have:v≤0:=by rw[←e3];exact Int.mul_nonpos_of_nonpos_of_nonneg c1 (Int.le_of_lt hp)
  exact⟨fun _=>by omega,fun _=>.inl c1⟩
 ·obtain⟨m,hm⟩:∃m:Nat,y.f0=(m:Int):=⟨y.f0.toNat,by omega⟩;have hv:v=((m*10^j:Nat):Int):=by rw[←e3,hm];push_cast;rfl
  have hvne:v≠0:=by rw[←e3];exact Int.mul_ne_zero (by omega) (Int.ne_of_gt hp)
  have ht:=(e5 hvne).2;rw[hm]at ht;have ht2:m%10≠0:=fun q=>ht (by rw[Int.tmod_eq_emod_of_nonneg (by omega)];omega);rw[hm,Int.toNat_natCast,hv,moreS_nat m n j b ht2 hn];constructor
  ·intro q;have:=of_decide_eq_false (q.resolve_left (by omega));omega
  ·intro q;exact .inr (decide_eq_false (by omega))
def NumY(a:List S32)(y:S35):Prop:=0<a.length∧(hd0 a).f1.length=0∧OkE y∧dr y=true∧(((hd0 a).f0=4∧0<(hd0 a).f3.length∧y=Xw (hd0 a).f3 0)∨(((hd0 a).f0=1∨(hd0 a).f0=2)∧0<(hd0 a).f2.length∧In64 (rd (hd0 a).f2 0)∧y=ofD (rd (hd0 a).f2 0)))
theorem num_or(a:List S32)(hg:∀n∈a,Gd n)(h:rt a=true):0<a.length∧((∃y,NumY a y)∨(0<(hd0 a).f1.length∨(hd0 a).f0=3∨(hd0 a).f0=5)):=by
 obtain⟨D,d1,d2,_⟩:=rt_RA h;have hl:=d2.ne.2;refine⟨hl,?_⟩;have hmem:hd0 a∈a:=by
  cases a with
  |nil=>simp at hl
  |cons x r=>exact List.mem_cons_self
 have g:=hg _ hmem;have h0:=d2.node _ hmem;by_cases c:0<(hd0 a).f1.length
 ·exact .inr (.inl c)
 ·have hf1:(hd0 a).f1=[]:=List.eq_nil_of_length_eq_zero (by omega);have hlf:=leaf (hd0 a) g h0;have hi:itm (hd0 a)=1:=by have:=hlf.1;rw[hf1,cnt_nil]at this;exact(congrArg Prod.fst this).symm
  have h2:=hlf.2;rw[hi]at h2;rcases Xec h2 with⟨c,q⟩|⟨c,q⟩|⟨c,q⟩
  ·have:=Xez q;have hl2:(hd0 a).f2.length=1:=by omega
   have hin:In64 (rd (hd0 a).f2 0):=by have e:=Xdl (hd0 a).f2 0 (by omega);rw[show((0:Nat):Int)=0 from rfl]at e;rw[e];exact g.1.2.1 _ (List.getElem_mem _)
   rcases c with c|c|c
   ·exact .inl ⟨_,hl,by omega,(Xdp _ hin).2.ok hin,dr_of (Xdp _ hin).2 hin,.inr ⟨.inl c,by omega,hin,rfl⟩⟩
   ·exact .inl ⟨_,hl,by omega,(Xdp _ hin).2.ok hin,dr_of (Xdp _ hin).2 hin,.inr ⟨.inr c,by omega,hin,rfl⟩⟩
   ·exact .inr (.inr (.inl c))
  ·have:=Xez q;have hl3:(hd0 a).f3.length=1:=by omega
   have e:=Xdw (hd0 a).f3 0 (by omega);rw[show((0:Nat):Int)=0 from rfl]at e;have hy:Xw (hd0 a).f3 0∈(hd0 a).f3:=by rw[e];exact List.getElem_mem _
   exact .inl ⟨_,hl,by omega,g.2.1 _ hy,List.all_eq_true.mp this.2.2.2 _ hy,.inl ⟨c,by omega,rfl⟩⟩
  ·exact .inr (.inr (.inr c))
theorem alone_yes{a:List S32}{y:S35}(h:NumY a y):Ev (fun k=>Xbd.f k a) (y.f0,y.f1,true):=by
 obtain⟨h1,h2,h3,h4,h5⟩:=h;have e:Xa a 0=hd0 a:=rfl;simp only[Xbd.f,e,if_pos (show(0:Int)<(a.length:Int) by omega),if_neg (show¬((hd0 a).f1.length:Int)>0 by omega)];rcases h5 with⟨q1,q2,q3⟩|⟨q1,q2,q3,q4⟩
 ·simp only[if_pos q1,if_pos (show(0:Int)<((hd0 a).f3.length:Int) by omega),←q3];exact Ev.const _
 ·rw[q4];rcases q1 with q1|q1
  ·simp only[if_neg (show¬(hd0 a).f0=4 by omega),if_pos q1,if_pos (show(0:Int)<((hd0 a).f2.length:Int) by omega)];exact Ev.bind (Xdp _ q3).1 (Ev.const _)
  ·simp only[if_neg (show¬(hd0 a).f0=4 by omega),if_neg (show¬(hd0 a).f0=1 by omega),if_pos q1,if_pos (show(0:Int)<((hd0 a).f2.length:Int) by omega)];exact Ev.bind (Xdp _ q3).1 (Ev.const _)
theorem alone_no{a:List S32}(hl:0<a.length)(h:0<(hd0 a).f1.length∨(hd0 a).f0=3∨(hd0 a).f0=5):Ev (fun k=>Xbd.f k a) (0,0,false):=by
 have e:Xa a 0=hd0 a:=rfl;simp only[Xbd.f,e,if_pos (show(0:Int)<(a.length:Int) by omega)];by_cases c:((hd0 a).f1.length:Int)>0
 ·simp only[if_pos c];exact Ev.const _
 ·have:=h.resolve_left (by omega);simp only[if_neg c,if_neg (show¬(hd0 a).f0=4 by omega),if_neg (show¬(hd0 a).f0=1 by omega),if_neg (show¬(hd0 a).f0=2 by omega)];exact Ev.const _
theorem within_no{a:List S32}(hl:0<a.length)(h:0<(hd0 a).f1.length∨(hd0 a).f0=3∨(hd0 a).f0=5)(m e n f:Int)(b:Bool):Ev (fun k=>X2.f k a m e n f b) false:=by
 have e1:Xa a 0=hd0 a:=rfl;have no:∀x y z t,Ev (fun k=>X2.j0 k b true m e n f x y z t) false:=fun x y z t=>Ev.succ (by simp only[X2.j0,if_true];exact Ev.const _);simp only[X2.f,e1,if_pos (show(0:Int)<(a.length:Int) by omega)];by_cases c:((hd0 a).f1.length:Int)=0
 ·have:=h.resolve_left (by omega);simp only[if_pos c];by_cases c3:(hd0 a).f0=3
  ·simp only[if_pos c3];exact no _ _ _ _
  ·simp only[if_neg c3,beq_iff_eq.mpr (this.resolve_left c3)];exact no _ _ _ _
 ·simp only[if_neg c];exact no _ _ _ _
theorem within_yes{a:List S32}{y:S35}(h:NumY a y)(m e n f:Int)(b:Bool)(c1 c2:Int)(q1:Ev (fun k=>Xi.f k m e y.f0 y.f1) c1)(q2:Ev (fun k=>Xi.f k y.f0 y.f1 n f) c2):
  Ev (fun k=>X2.f k a m e n f b) (if(wh y).2=true then(decide (c1≤0)&&decide (c2≤0))else if b=true then false else(decide (c1≤0)&&decide (c2≤0))):=by
 obtain⟨h1,h2,h3,h4,h5⟩:=h;have e1:Xa a 0=hd0 a:=rfl;have hw:=rwh_ev y h3;simp only[X2.f,e1,if_pos (show(0:Int)<(a.length:Int) by omega),if_pos (show((hd0 a).f1.length:Int)=0 by omega),if_neg (show¬(hd0 a).f0=3 by rcases h5 with h5|h5<;>omega),beq_eq_false_iff_ne.mpr (show(hd0 a).f0≠5 by rcases h5 with h5|h5<;>omega)];refine Ev.succ ?_;simp only[X2.j0,Bool.false_eq_true,if_false];have tail:∀(F:Nat→Option Bool),(∀k,F k=((Xi.f k m e y.f0 y.f1).bind fun t=>if t≤0 then((Xi.f k y.f0 y.f1 n f).bind fun t2=>some (decide (t2≤0)))else some false))→Ev F (decide (c1≤0)&&decide (c2≤0)):=fun F hF=>by
  have:Ev (fun k=>((Xi.f k m e y.f0 y.f1).bind fun t=>if t≤0 then((Xi.f k y.f0 y.f1 n f).bind fun t2=>some (decide (t2≤0)))else some false)) (decide (c1≤0)&&decide (c2≤0)):=by
   refine Ev.bind q1 ?_;by_cases z:c1≤0
   ·simp only[if_pos z,decide_eq_true z,Bool.true_and];exact Ev.bind q2 (Ev.const _)
   ·simp only[if_neg z,decide_eq_false z,Bool.false_and];exact Ev.const _
  obtain⟨k0,hk⟩:=this;exact⟨k0,fun k hk1=>(hF k).trans (hk k hk1)⟩
 have whole:Ev (fun k=>(Xn.f k y.f0 y.f1).bind fun w=>if w.2=true then((Xi.f k m e y.f0 y.f1).bind fun t=>if t≤0 then((Xi.f k y.f0 y.f1 n f).bind fun t2=>some (decide (t2≤0)))else some false)else(if b=true then some false else((Xi.f k m e y.f0 y.f1).bind fun t=>if t≤0 then((Xi.f k y.f0 y.f1 n f).bind fun t2=>some (decide (t2≤0)))else some false))) (if(wh y).2=true then(decide (c1≤0)&&decide (c2≤0))else if b=true then false else(decide (c1≤0)&&decide (c2≤0))):=by
  refine Ev.bind hw ?_;by_cases z:(wh y).2=true
  ·simp only[if_pos z];exact tail _ (fun _=>rfl)
  ·simp only[if_neg z];by_cases z2:b=true
   ·simp only[if_pos z2];exact Ev.const _
   ·simp only[if_neg z2];exact tail _ (fun _=>rfl)
 rcases h5 with⟨p1,p2,p3⟩|⟨p1,p2,p3,p4⟩
 ·simp only[if_pos p1,if_pos (show(0:Int)<((hd0 a).f3.length:Int) by omega),←p3];exact whole
 ·simp only[if_neg (show¬(hd0 a).f0=4 by omega),if_pos (show(0:Int)<((hd0 a).f2.length:Int) by omega)];have ho:=rof_ev _ p3;rw[←p4]at ho;exact Ev.bind ho whole
theorem rR0:Ev (fun k=>Xl.f k 0 0) true:=⟨60,fun k hk=>Xc3 (g:=fun k=>Xl.f k 0 0) (fun k=>Xl.mono _ _ k) hk (by decide+kernel)⟩
theorem rR1:Ev (fun k=>Xl.f k 1 0) true:=⟨60,fun k hk=>Xc3 (g:=fun k=>Xl.f k 1 0) (fun k=>Xl.mono _ _ k) hk (by decide+kernel)⟩
theorem rR8:Ev (fun k=>Xl.f k 1 (-8)) true:=⟨60,fun k hk=>Xc3 (g:=fun k=>Xl.f k 1 (-8)) (fun k=>Xl.mono _ _ k) hk (by decide+kernel)⟩
theorem rR18:Ev (fun k=>Xl.f k 18 0) true:=⟨60,fun k hk=>Xc3 (g:=fun k=>Xl.f k 18 0) (fun k=>Xl.mono _ _ k) hk (by decide+kernel)⟩
theorem rR30:Ev (fun k=>Xl.f k 3 1) true:=⟨60,fun k hk=>Xc3 (g:=fun k=>Xl.f k 3 1) (fun k=>Xl.mono _ _ k) hk (by decide+kernel)⟩
theorem rR254:Ev (fun k=>Xl.f k 254 0) true:=⟨60,fun k hk=>Xc3 (g:=fun k=>Xl.f k 254 0) (fun k=>Xl.mono _ _ k) hk (by decide+kernel)⟩
theorem rRbig:Ev (fun k=>Xl.f k 2147483646 0) true:=⟨60,fun k hk=>Xc3 (g:=fun k=>Xl.f k 2147483646 0) (fun k=>Xl.mono _ _ k) hk (by decide+kernel)⟩
theorem whole_none:Ev (fun k=>Xq.f k 0 0) (0,true):=⟨60,fun k hk=>Xc3 (g:=fun k=>Xq.f k 0 0) (fun k=>Xq.mono _ _ k) hk (by decide+kernel)⟩
theorem Xen(a:List S32)(hg:∀n∈a,Gd n)(h:rt a=true)(L H:Int)(m e n f:Nat)(hm:m=0∨m%10≠0)(hm2:m≤1000)(hz:m=0→(e:Int)=0)(he:e≤10)(hn:0<n)(hn2:n≤2147483647)(hf:f≤10)(hL:L=((m*10^e:Nat):Int))(hH:H=((n*10^f:Nat):Int))(rl:Ev (fun k=>Xl.f k (m:Int) (e:Int)) true)(rh:Ev (fun k=>Xl.f k (n:Int) (f:Int)) true):
  ∃v,Ev (fun k=>Xa2.f k a L H) v∧Ev (fun k=>X2.f k a (m:Int) (e:Int) (n:Int) (f:Int) true) v:=by
 obtain⟨hl,⟨y,hy⟩|hno⟩:=num_or a hg h
 ·have ok:=hy.2.2.1;have hd:=hy.2.2.2.1;obtain⟨c1,q1,p1⟩:=lowC y ok hd m (e:Int) hm2 (by omega) hz rl;obtain⟨c2,q2,p2⟩:=highC y ok hd n (f:Int) hn hn2 (by omega) rh;have hw:=within_yes hy m e n f true c1 c2 q1 q2;have ha:=alone_yes hy;have hwh:=(wh_ev y ok).1;refine⟨_,?_,hw⟩;simp only[Xa2.f];refine Ev.bind ha (Ev.bind hwh ?_);simp only[if_true];cases z:(wh y).2 with
  |false=>simp only[Bool.false_eq_true,if_false,if_true];exact Ev.const _
  |true=>
   have o:=wh_true y ok hd z;have l1:=low_whole y _ o m e hm;have l2:=high_whole y _ o n f hn;simp only[if_true];have d1:decide (c1≤0)=decide (L≤(wh y).1):=decide_eq_decide.mpr (by rw[p1,l1,hL]);have d2:decide (c2≤0)=decide ((wh y).1≤H):=decide_eq_decide.mpr (by rw[p2,l2,hH]);rw[d1,d2];by_cases w:(wh y).1≥L
   ·simp only[if_pos w,decide_eq_true (show L≤(wh y).1 from w),Bool.true_and];exact Ev.const _
   ·simp only[if_neg w,decide_eq_false (show¬L≤(wh y).1 from w),Bool.false_and];exact Ev.const _
 ·refine⟨false,?_,within_no hl hno _ _ _ _ _⟩;simp only[Xa2.f];refine Ev.bind (alone_no hl hno) (Ev.bind whole_none ?_);simp only[Bool.false_eq_true,if_false];exact Ev.const _
theorem ct_both(a:List S32)(hg:∀n∈a,Gd n)(h:rt a=true):∃v,Ev (fun k=>(Xbd.f k a).bind fun bt=>if bt.2.2=true then(if bt.1≥0 then((X5.f k bt.1 bt.2.1 1 (-8)).bind fun t=>some (decide (t≤0)))else some false)else some false) v∧Ev (fun k=>X2.f k a 0 0 1 (-8) false) v:=by
 obtain⟨hl,⟨y,hy⟩|hno⟩:=num_or a hg h
 ·have ok:=hy.2.2.1;have hd:=hy.2.2.2.1;obtain⟨c1,q1,p1⟩:=lowC y ok hd 0 0 (by omega) (by omega) (fun _=>rfl) rR0;obtain⟨c2,q2,p2⟩:=highC y ok hd 1 (-8) (by omega) (by omega) (by omega) rR8;have hw:=within_yes hy 0 0 1 (-8) false c1 c2 q1 q2;have e:(if(wh y).2=true then(decide (c1≤0)&&decide (c2≤0))else if false=true then false else(decide (c1≤0)&&decide (c2≤0)))=(decide (c1≤0)&&decide (c2≤0)):=by cases(wh y).2<;>rfl
  rw[e]at hw;refine⟨_,?_,hw⟩;refine Ev.bind (alone_yes hy) ?_;simp only[if_true];by_cases w:y.f0≥0
  ·obtain⟨c,r1,r2⟩:=dcmp8 y ok hd w;have d1:decide (c1≤0)=true:=decide_eq_true (p1.mpr ⟨w,.inl rfl⟩);have d2:decide (c2≤0)=decide (c≤0):=decide_eq_decide.mpr (by
    rw[p2,r2];constructor
    ·rintro(z|z)
     ·exact .inl (by omega)
     ·exact .inr z
    ·rintro(z|z)
     ·exact .inl (by omega)
     ·exact .inr z)
   simp only[if_pos w,d1,d2,Bool.true_and];exact Ev.bind r1 (Ev.const _)
  ·have d1:decide (c1≤0)=false:=decide_eq_false (fun z=>w (p1.mp z).1);simp only[if_neg w,d1,Bool.false_and];exact Ev.const _
 ·refine⟨false,?_,within_no hl hno _ _ _ _ _⟩;refine Ev.bind (alone_no hl hno) ?_;simp only[Bool.false_eq_true,if_false];exact Ev.const _
theorem rights_ev(a:List S32)(hg:∀n∈a,Gd n)(hl:a.length≤100):∃v,Ev (fun k=>Xbn.f k a) v∧Ev (fun k=>Xbc.f k a) v∧(v=true→rt a=true):=by
 have m1:Ev (fun k=>Xcg.f k a) (if rt a=true then(fm a,true)else([],false)):=by
  cases h:rt a with
  |false=>simp only[Bool.false_eq_true,if_false];exact make_no a (fun n hn=>(hg n hn).1.1) (by omega) h
  |true=>simp only[if_true];exact(make_yes a hg (by omega) h).1
 have m2:Ev (fun k=>Xbl.f k a) (if rt a=true then(fm a,true)else([],false)):=by
  have hr:=rrt a hl hg;simp only[Xbl.f];refine Ev.bind hr ?_;cases h:rt a with
  |false=>simp only[Bool.false_eq_true,if_false];exact Ev.const _
  |true=> obtain⟨D,d1,d2,d3,d4⟩:=rt_RA h;simp only[if_true];exact Ev.bind (rform_ev D d1 a d2 hg hl d4) (Ev.const _)
 cases h:rt a with
 |false=>
  rw[h]at m1 m2;simp only[Bool.false_eq_true,if_false]at m1 m2;refine⟨false,?_,?_,fun z=>absurd z (by simp)⟩
  ·simp only[Xbn.f];refine Ev.bind m1 ?_;simp only[Bool.false_eq_true,if_false];exact Ev.const _
  ·simp only[Xbc.f];refine Ev.bind m2 ?_;simp only[Bool.false_eq_true,if_false];exact Ev.const _
 |true=>
  rw[h]at m1 m2;simp only[if_true]at m1 m2;refine⟨q a (fm a),?_,?_,fun _=>rfl⟩
  ·simp only[Xbn.f];refine Ev.bind m1 ?_;simp only[if_true];exact Ev.bind (same_q a (fm a) hl (fun n hn=>(hg n hn).fit)) (Ev.const _)
  ·simp only[Xbc.f];refine Ev.bind m2 ?_;simp only[if_true];exact Ev.bind (rsame_q a (fm a) (by omega) hg) (Ev.const _)
def nm:List ByteArray:=[(⟨#[226,142,149,67,84]⟩:ByteArray),(⟨#[226,142,149,73,79]⟩:ByteArray),(⟨#[226,142,149,76,88]⟩:ByteArray),(⟨#[226,142,149,80,80]⟩:ByteArray),(⟨#[226,142,149,80,87]⟩:ByteArray),(⟨#[226,142,149,82,76]⟩:ByteArray)]
theorem nm_is:Xay.f=some nm:=rfl
theorem nm_at:(Xdv ByteArray.empty nm 0).toList=[226,142,149,67,84]∧(Xdv ByteArray.empty nm 1).toList=[226,142,149,73,79]∧(Xdv ByteArray.empty nm 2).toList=[226,142,149,76,88]∧(Xdv ByteArray.empty nm 3).toList=[226,142,149,80,80]∧(Xdv ByteArray.empty nm 4).toList=[226,142,149,80,87]∧(Xdv ByteArray.empty nm 5).toList=[226,142,149,82,76]:=by refine⟨?_,?_,?_,?_,?_,?_⟩<;>(rw[ByteArray.toList_eq];rfl)
theorem sys_both(b:ByteArray)(a:List S32)(hg:∀n∈a,Gd n)(hl:a.length≤100):∃v,Ev (fun k=>Xas.f k b a) v∧Ev (fun k=>Xb7.f k b a) v:=by
 obtain⟨v,v1,v2,v3⟩:=rights_ev a hg hl;obtain⟨n0,n1,n2,n3,n4,n5⟩:=nm_at;have ln:nm.length=6:=rfl;cases v with
 |false=>
  refine⟨false,?_,?_⟩
  ·simp only[Xas.f];refine Ev.bind v1 ?_;simp only[Bool.false_eq_true,if_false];exact Ev.const _
  ·simp only[Xb7.f];refine Ev.bind v2 ?_;simp only[Bool.false_eq_true,if_false];exact Ev.const _
 |true=>
  have h:=v3 rfl;have hp:(0:Int)<(a.length:Int):=by have:=(num_or a hg h).1;omega
  suffices hs:∃v,Ev (fun k=>if b.toList=([226,142,149,67,84]:List UInt8)then((Xbd.f k a).bind fun bt511=>(if bt511.2.2=true then(if bt511.1≥0 then((X5.f k bt511.1 bt511.2.1 1 (-8)).bind fun t515=>(some (decide (t515≤0))))else(some false))else(some false)))else(if b.toList=([226,142,149,73,79]:List UInt8)then((Xa2.f k a 0 1).bind fun t516=>(some t516))else(if b.toList=([226,142,149,76,88]:List UInt8)then(if 0<(a.length:Int)then(if((Xa a 0).f0)=3 then(some (decide ((((Xa a 0).f1).length:Int)<2)))else(some false))else(none))else(if b.toList=([226,142,149,80,80]:List UInt8)then((Xa2.f k a 1 18).bind fun t519=>(some t519))else(if b.toList=([226,142,149,80,87]:List UInt8)then((Xa2.f k a 30 254).bind fun t520=>(some t520))else(if b.toList=([226,142,149,82,76]:List UInt8)then((Xa2.f k a 1 2147483646).bind fun t521=>(some t521))else(some false))))))) v∧Ev (fun k=>Xb7.f k b a) v by obtain⟨v,h1,h2⟩:=hs;refine⟨v,?_,h2⟩;simp only[Xas.f];refine Ev.bind v1 ?_;simp only[if_true];exact h1
  have R:∀w,Ev (fun k=>if b.toList=([226,142,149,67,84]:List UInt8)then((X2.f k a 0 0 1 (-8) false).bind fun t=>some t)else if b.toList=([226,142,149,73,79]:List UInt8)then((X2.f k a 0 0 1 0 true).bind fun t=>some t)else if b.toList=([226,142,149,76,88]:List UInt8)then(if((Xa a 0).f0)=3 then(some (decide ((((Xa a 0).f1).length:Int)≤1)))else(some false))else if b.toList=([226,142,149,80,80]:List UInt8)then((X2.f k a 1 0 18 0 true).bind fun t=>some t)else if b.toList=([226,142,149,80,87]:List UInt8)then((X2.f k a 3 1 254 0 true).bind fun t=>some t)else if b.toList=([226,142,149,82,76]:List UInt8)then((X2.f k a 1 0 2147483646 0 true).bind fun t=>some t)else some false) w→Ev (fun k=>Xb7.f k b a) w:=fun w hw=>by
   simp only[Xb7.f];refine Ev.bind v2 ?_;simp only[if_true,nm_is,Option.bind_some,ln,n0,n1,n2,n3,n4,n5,if_pos hp,if_pos (show(0:Int)<((6:Nat):Int) by decide),if_pos (show(1:Int)<((6:Nat):Int) by decide),if_pos (show(2:Int)<((6:Nat):Int) by decide),if_pos (show(3:Int)<((6:Nat):Int) by decide),if_pos (show(4:Int)<((6:Nat):Int) by decide),if_pos (show(5:Int)<((6:Nat):Int) by decide)];exact hw
  have via:∀{L H m e n f:Int},(∃v,Ev (fun k=>Xa2.f k a L H) v∧Ev (fun k=>X2.f k a m e n f true) v)→∃v,Ev (fun k=>(Xa2.f k a L H).bind fun t=>some t) v∧Ev (fun k=>(X2.f k a m e n f true).bind fun t=>some t) v:=fun⟨v,x,y⟩=>⟨v,Ev.bind x (Ev.const _),Ev.bind y (Ev.const _)⟩;by_cases c0:b.toList=([226,142,149,67,84]:List UInt8)
  ·obtain⟨v,x,y⟩:=ct_both a hg h;refine⟨v,?_,R v ?_⟩
   ·simp only[if_pos c0];exact x
   ·simp only[if_pos c0];exact Ev.bind y (Ev.const _)
  by_cases c1:b.toList=([226,142,149,73,79]:List UInt8)
  ·obtain⟨v,x,y⟩:=via (Xen a hg h 0 1 0 0 1 0 (.inl rfl) (by omega) (fun _=>rfl) (by omega) (by omega) (by omega) (by omega) rfl rfl rR0 rR1);refine⟨v,?_,R v ?_⟩
   ·simp only[if_neg c0,if_pos c1];exact x
   ·simp only[if_neg c0,if_pos c1];exact y
  by_cases c2:b.toList=([226,142,149,76,88]:List UInt8)
  ·have e:decide ((((Xa a 0).f1).length:Int)<2)=decide ((((Xa a 0).f1).length:Int)≤1):=decide_eq_decide.mpr (by omega);refine⟨if(Xa a 0).f0=3 then decide ((((Xa a 0).f1).length:Int)≤1)else false,?_,R _ ?_⟩
   ·simp only[if_neg c0,if_neg c1,if_pos c2,if_pos hp,e];by_cases z:(Xa a 0).f0=3
    ·simp only[if_pos z];exact Ev.const _
    ·simp only[if_neg z];exact Ev.const _
   ·simp only[if_neg c0,if_neg c1,if_pos c2];by_cases z:(Xa a 0).f0=3
    ·simp only[if_pos z];exact Ev.const _
    ·simp only[if_neg z];exact Ev.const _
  by_cases c3:b.toList=([226,142,149,80,80]:List UInt8)
  ·obtain⟨v,x,y⟩:=via (Xen a hg h 1 18 1 0 18 0 (.inr (by decide)) (by omega) (fun _=>rfl) (by omega) (by omega) (by omega) (by omega) rfl rfl rR1 rR18);refine⟨v,?_,R v ?_⟩
   ·simp only[if_neg c0,if_neg c1,if_neg c2,if_pos c3];exact x
   ·simp only[if_neg c0,if_neg c1,if_neg c2,if_pos c3];exact y
  by_cases c4:b.toList=([226,142,149,80,87]:List UInt8)
  ·obtain⟨v,x,y⟩:=via (Xen a hg h 30 254 3 1 254 0 (.inr (by decide)) (by omega) (fun z=>absurd z (by decide)) (by omega) (by omega) (by omega) (by omega) rfl rfl rR30 rR254);refine⟨v,?_,R v ?_⟩
   ·simp only[if_neg c0,if_neg c1,if_neg c2,if_neg c3,if_pos c4];exact x
   ·simp only[if_neg c0,if_neg c1,if_neg c2,if_neg c3,if_pos c4];exact y
  by_cases c5:b.toList=([226,142,149,82,76]:List UInt8)
  ·obtain⟨v,x,y⟩:=via (Xen a hg h 1 2147483646 1 0 2147483646 0 (.inr (by decide)) (by omega) (fun _=>rfl) (by omega) (by omega) (by omega) (by omega) rfl rfl rR1 rRbig);refine⟨v,?_,R v ?_⟩
   ·simp only[if_neg c0,if_neg c1,if_neg c2,if_neg c3,if_neg c4,if_pos c5];exact x
   ·simp only[if_neg c0,if_neg c1,if_neg c2,if_neg c3,if_neg c4,if_pos c5];exact y
  ·refine⟨false,?_,R _ ?_⟩
   ·simp only[if_neg c0,if_neg c1,if_neg c2,if_neg c3,if_neg c4,if_neg c5];exact Ev.const _
   ·simp only[if_neg c0,if_neg c1,if_neg c2,if_neg c3,if_neg c4,if_neg c5];exact Ev.const _
theorem Xe3{b:ByteArray}{l:List UInt8}(h:b.toList=l):b=⟨l.toArray⟩:=by rw[ByteArray.toList_eq]at h;obtain⟨⟨c⟩⟩:=b;rw[←h]
def Few1(d:List S32):Prop:=d.length≤1∧∀n∈d,Gd n
theorem Xe5(b:ByteArray)(d:List S32)(h1:Xa6.f 200 b=some (d,true))(h2:Xb4.f b=some (d,true))(h3:Few1 d):∃d e,Ev (fun k=>Xa6.f k b) (d,e)∧Xb4.f b=some (d,e)∧Few1 d:=
 ⟨d,true,⟨200,fun k hk=>Xc3 (g:=fun k=>Xa6.f k b) (fun k=>Xa6.mono _ k) hk h1⟩,h2,h3⟩
theorem few1(a:Int)(s c:List Int)(e:List S35)(hs:s.length≤30)(hc:c.length≤30)(he:e.length≤30)(hv:∀v∈c,In64 v)(hy:∀y∈e,OkE y):Few1 [(⟨a,s,c,e⟩:S32)]:=
 ⟨by simp,fun n hn=>by rw[List.mem_singleton.1 hn];exact⟨⟨fun y h=>(hy y h).2,hv,by simp only;omega,by simp only;omega⟩,hy,hs⟩⟩
theorem def_both(b:ByteArray):∃d e,Ev (fun k=>Xa6.f k b) (d,e)∧Xb4.f b=some (d,e)∧Few1 d:=by
 have no:∀v∈([]:List Int),In64 v:=fun v h=>absurd h List.not_mem_nil;have nod:∀y∈([]:List S35),OkE y:=fun v h=>absurd h List.not_mem_nil;have one:∀z:Int,In64 z→∀v∈[z],In64 v:=fun z hz v h=>by rw[List.mem_singleton.1 h];exact hz
 by_cases c0:b.toList=([226,142,149,67,84]:List UInt8)
 ·obtain rfl:b=⟨#[226,142,149,67,84]⟩:=Xe3 c0;exact Xe5 _ [⟨4,[],[],[⟨1,-13⟩]⟩] (by kernel_rfl) (by kernel_rfl) (few1 _ _ _ _ (by simp) (by simp) (by simp) no (fun y h=>by rw[List.mem_singleton.1 h];exact⟨by show In64 (1:Int);unfold In64;omega,by show In64 (-13:Int);unfold In64;omega⟩))
 by_cases c1:b.toList=([226,142,149,73,79]:List UInt8)
 ·obtain rfl:b=⟨#[226,142,149,73,79]⟩:=Xe3 c1;exact Xe5 _ [⟨1,[],[1],[]⟩] (by kernel_rfl) (by kernel_rfl) (few1 _ _ _ _ (by simp) (by simp) (by simp) (one _ (by unfold In64;omega)) nod)
 by_cases c2:b.toList=([226,142,149,76,88]:List UInt8)
 ·obtain rfl:b=⟨#[226,142,149,76,88]⟩:=Xe3 c2;exact Xe5 _ [⟨3,[0],[],[]⟩] (by kernel_rfl) (by kernel_rfl) (few1 _ _ _ _ (by simp) (by simp) (by simp) no nod)
 by_cases c3:b.toList=([226,142,149,80,80]:List UInt8)
 ·obtain rfl:b=⟨#[226,142,149,80,80]⟩:=Xe3 c3;exact Xe5 _ [⟨2,[],[10],[]⟩] (by kernel_rfl) (by kernel_rfl) (few1 _ _ _ _ (by simp) (by simp) (by simp) (one _ (by unfold In64;omega)) nod)
 by_cases c4:b.toList=([226,142,149,80,87]:List UInt8)
 ·obtain rfl:b=⟨#[226,142,149,80,87]⟩:=Xe3 c4;exact Xe5 _ [⟨2,[],[80],[]⟩] (by kernel_rfl) (by kernel_rfl) (few1 _ _ _ _ (by simp) (by simp) (by simp) (one _ (by unfold In64;omega)) nod)
 by_cases c5:b.toList=([226,142,149,82,76]:List UInt8)
 ·obtain rfl:b=⟨#[226,142,149,82,76]⟩:=Xe3 c5;exact Xe5 _ [⟨2,[],[16807],[]⟩] (by kernel_rfl) (by kernel_rfl) (few1 _ _ _ _ (by simp) (by simp) (by simp) (one _ (by unfold In64;omega)) nod)
 ·refine⟨[],false,?_,?_,by simp,by simp⟩
  ·simp only[Xa6.f,if_neg c0,if_neg c1,if_neg c2,if_neg c3,if_neg c4,if_neg c5];exact Ev.const _
  ·obtain⟨n0,n1,n2,n3,n4,n5⟩:=nm_at;have ln:nm.length=6:=rfl;simp only[Xb4.f,nm_is,Option.bind_some,ln,n0,n1,n2,n3,n4,n5,if_neg c0,if_neg c1,if_neg c2,if_neg c3,if_neg c4,if_neg c5,if_pos (show(0:Int)<((6:Nat):Int) by decide),if_pos (show(1:Int)<((6:Nat):Int) by decide),if_pos (show(2:Int)<((6:Nat):Int) by decide),if_pos (show(3:Int)<((6:Nat):Int) by decide),if_pos (show(4:Int)<((6:Nat):Int) by decide),if_pos (show(5:Int)<((6:Nat):Int) by decide)]
theorem small_ev:Ev (fun k=>Xbv.f k) true:=
 ⟨200,fun k hk=>Xc3 (g:=fun k=>Xbv.f k) (fun k=>Xbv.mono k) hk (by decide+kernel)⟩
theorem SystemTells(b:ByteArray)(l:List S32)(w:∀n∈l,WfN n):∃k,Xat.f k b l=some true:=by
 obtain⟨t,e,f⟩:=few_ev l;have no:∀x,Ev (fun k=>Xat.j0 k b l x true) x:=fun x=>Ev.succ (by simp only[Xat.j0,if_true];exact Ev.const _);have main:Ev (fun k=>Xat.f k b l) true:=by
  simp only[Xat.f];refine Ev.bind small_ev (Ev.bind e ?_);cases t with
  |false=> simp only[Bool.false_eq_true,if_false];exact no true
  |true=>
   obtain⟨hl,hf⟩:=f rfl;have hg:∀n∈l,Gd n:=fun n hn=>gd_wf (w n hn) (hf n hn);simp only[if_true];by_cases g:(b.size:Int)>50
   ·simp only[decide_eq_true g];exact no true
   ·simp only[decide_eq_false g];obtain⟨d,x,d1,d2,d3,d4⟩:=def_both b;obtain⟨v,s1,s2⟩:=sys_both b l hg hl;have q1:=rsame_q d d (by omega) d4;rw[q_t rfl]at q1;refine Ev.succ ?_;simp only[Xat.j0,Bool.false_eq_true,if_false];refine Ev.bind d1 ?_;simp only[d2,Option.bind_some,if_true];refine Ev.bind s1 (Ev.bind s2 ?_);simp only[BEq.rfl,if_true];refine Ev.bind q1 ?_;simp only[if_true];exact Ev.const _
 exact main.get
end Go.Proofs.YtfjhiiaahbjaiaaGreatDoor.Pure
