/- Part 36 of the texts of this claim: a symbolic executor and contracts of functions. -/
import Derived.Test.YtbclgnojcnkehaaGreatPuNRP2
import Derived.Test.YtbclgnojcnkehaaGreatPuNRCRow
import Derived.Test.YtbclgnojcnkehaaGreatPuNRCPar
import Derived.ChangeArms
namespace Go.Proofs.YtbclgnojcnkehaaGreat.Sx
open Go Go.RowKit Go.Shelf
set_option linter.unusedVariables false
set_option linter.unusedSimpArgs false
set_option maxRecDepth 100000
attribute [local go_sem] Oper.semAt_some
set_option maxHeartbeats 2000000 in
theorem sets_in(n:Nat)(N most:Int)(w:World):CallsIn Fence.wide n Tryz.prog 98 #[.int .i64 N,.int .i64 most] w fun e w'=>
  e=.returned (.func (.func 136) #[] #[.pointer (some ⟨w.heap.size,0,none⟩),.pointer (some ⟨w.heap.size+1,0,none⟩)])∧w'=(w.alloc (.cells #[.int .i64 N] 3)).alloc (.cells #[.int .i64 most] 3):=by
 refine callsIn_of_wp Tryz.func98 rfl trivial ?_ rfl
 simp only[Tryz.ntmps98,List.size_toArray,List.length_cons,List.length_nil,Nat.reduceAdd,Nat.reduceSub,Array.replicate_succ,Array.replicate_zero,List.push_toArray,List.append_toArray,List.nil_append,List.cons_append]
 gi_wp2
 go_ret
 exact ⟨rfl,rfl⟩
theorem check_calls{M:Mem}{u:Value}{l:List Int}(hu:IsL M intV64 u l)(hl:chkL l=true)(w:World)(hM:Sub M w):Calls Tryz.prog 59 #[.agg #[u]] w fun e w'=>e=.returned (.bool true)∧Below w.heap.size w w':=
 CallS.value (args:=[.agg #[u]]) (M:=M) (fun K hK=>pchk_ok u l hu (by have:=chk_len hl;omega) (by rw[hl];exact hK)) hM
theorem Sub.alloc{M:Mem}{w:World}(h:Sub M w)(o:Obj):Sub M (w.alloc o):=fun b p hb=>by
 have h1:=h b p hb
 exact ((Below.refl w.heap.size w).alloc (Nat.le_refl _) o).block b (Array.getElem?_eq_some_iff.1 h1).1▸h1
theorem cellNew{w w1:World}{v:Value}{t:TypeId}(h:Below (w.alloc (.cells #[v] t)).heap.size (w.alloc (.cells #[v] t)) w1):w1.cell? ⟨w.heap.size,0,none⟩=some v:=
 (h.cell (p:=⟨w.heap.size,0,none⟩) (by simp)).trans (Boxed.new w t v).cell
theorem cellOld{w:World}{B:Nat}{v:Value}(h:w.cell? ⟨B,0,none⟩=some v)(o:Obj):(w.alloc o).cell? ⟨B,0,none⟩=some v:=by
 obtain ⟨p,h1,_⟩:=cells_of_cell h
 rw[World.cell?_of_block (a:=⟨B,0,none⟩) (((Below.refl w.heap.size w).alloc (Nat.le_refl _) o).block B (Array.getElem?_eq_some_iff.1 h1).1)];exact h
theorem ownsRow_base{W W':World}{n m:Nat}{e e':TypeId}{z z' k k':Nat}{v:Value}{xs xs':List Value}(h:W.ownsRow n e z v k xs)(h':W'.ownsRow m e' z' v k' xs'):W.ownsRow m e z v k xs:=by
 refine ⟨h.1,?_⟩
 rcases h.2 with ⟨rfl,h0⟩|⟨g,cap,cur,rfl,_,rest⟩
 ·exact .inl ⟨rfl,h0⟩
 ·rcases h'.2 with ⟨h1,_⟩|⟨g2,cap2,cur2,e2,hb,_⟩
  ·cases h1
  ·cases e2
   exact .inr ⟨g,cap,cur,rfl,hb,rest⟩
theorem ownsRow_weak{W:World}{n m:Nat}{e:TypeId}{z k:Nat}{v:Value}{xs:List Value}(h:W.ownsRow n e z v k xs)(hm:m≤n):W.ownsRow m e z v k xs:=by
 refine ⟨h.1,?_⟩
 rcases h.2 with h0|⟨g,cap,cur,e1,hb,rest⟩
 ·exact .inl h0
 ·exact .inr ⟨g,cap,cur,e1,Nat.le_trans hm hb,rest⟩
theorem KpB.app{W w4:World}{base B Bn Bm:Nat}{e:TypeId}{v v':Value}{k:Nat}{xs:List Value}{tmp:Obj}(hrow:W.ownsRow base e 1 v k xs)(hg:(W.alloc tmp).grownBy w4 v.ownBlock)(h1:Bn<base)(h2:Bm<base)(hb:base≤W.heap.size)(n1:Bn≠B)(n2:Bm≠B):KpB Bn Bm W (w4.setCell ⟨B,0,none⟩ v'):=by
 have hsz:W.heap.size+1≤w4.heap.size:=by have:=hg.size;simpa using this
 have hs:=grownBy_setCell' w4 B v'
 have key:∀x,x<base→x≠B→(w4.setCell ⟨B,0,none⟩ v').heap[x]? = W.heap[x]?:=fun x hx hne=>by
  have a1:=hs.block x (by omega) (fun e=>hne (by cases e;rfl))
  have a2:=hg.block x (by simp;omega) (fun e=>by
   rcases hrow.2 with ⟨rfl,_⟩|⟨g,cap,cur,rfl,hbg,_⟩
   ·simp[Value.ownBlock]at e
   ·simp[Value.ownBlock]at e;omega)
  have a3:=((Below.refl W.heap.size W).alloc (Nat.le_refl _) tmp).block x (by omega)
  rw[a1,a2,a3]
 exact ⟨by have:=hs.size;omega,key Bn h1 n1,key Bm h2 n2⟩
theorem infoInt:(Tryz.prog.info? 3).map (fun i=>(i.zero,i.size,i.bytes))=some (some (.int .i64 0),1,8):=by kernel_rfl
theorem sets_stops(n:Nat)(hn:1≤n)(Bn Bm N most:Nat)(hN:N≤8)(w:World)(hBn:w.cell? ⟨Bn,0,none⟩=some (.int .i64 (N:Int)))(hBm:w.cell? ⟨Bm,0,none⟩=some (.int .i64 (most:Int))) :
  SeqStopsK Fence.wide n Tryz.prog 136 #[.pointer (some ⟨Bn,0,none⟩),.pointer (some ⟨Bm,0,none⟩)] (fun x:Nat=>#[Value.int .i64 (x:Int)]) (KpB Bn Bm) (fun ys=>ys=hyps N most) (fun _=>True) 256 w:=fun l J Jx W hW hJ _ hY h0=>
 have cell:∀B v,w.cell? ⟨B,0,none⟩=some v→W.cell? ⟨B,0,none⟩=some v:=fun B v h=>by
  obtain ⟨o,ho,_⟩:=cells_of_cell h
  rw[World.cell?_of_block (a:=⟨B,0,none⟩) (hW.block B (Array.getElem?_eq_some_iff.1 ho).1)];exact h
 sets1_in n hn l Bn Bm N most hN J Jx hY W hJ (cell _ _ hBn) (cell _ _ hBm) h0
set_option maxHeartbeats 4000000 in
theorem Sets_in(n:Nat)(hn:3≤n){M:Mem}{u:Value}{l:List Int}(hu:IsL M intV64 u l)(hl:chkL l=true)(most:Nat)(hm1:1≤most)(hm2:most≤2)(w:World)(hM:Sub M w) :
  CallsIn Fence.wide n Tryz.prog 43 #[.agg #[u],.int .i64 (most:Int)] w fun e W'=>∃v,e=.returned (.tuple #[v,.int .i64 0])∧W'.ownsRow w.heap.size 3 1 v (hyps l.length most).length ((hyps l.length most).map natV)∧Below w.heap.size w W':=by
 have h1:1≤n:=by omega
 have hlen:=chk_len hl
 obtain ⟨b,off,c,rfl,hc⟩:∃b off c,u=.slice (some ⟨b,off,none⟩) l.length c∧l.length≤c:=by
  rcases SlM.cases hu with ⟨h0,_⟩|⟨b,off,c,h2,h3,_⟩
  ·omega
  ·exact ⟨b,off,c,h2,h3⟩
 obtain ⟨i0,hi,hz0,hz1,hz2⟩:=info_parts infoInt
 have g1:decide ((most:Int)<1)=false:=by simp;omega
 have g2:decide (2<(most:Int))=false:=by simp;omega
 refine callsIn_of_wp_marks Tryz.func43 rfl trivial ?_ rfl
 simp only[Tryz.ntmps43,List.size_toArray,List.length_cons,List.length_nil,Nat.reduceAdd,Nat.reduceSub,Array.replicate_succ,Array.replicate_zero,List.push_toArray,List.append_toArray,List.nil_append,List.cons_append]
 gi_wp2_with (first|(refine ⟨trivial,?_⟩;gi_at_call 59;refine (callsIn_wide.2 (check_calls hu hl _ (hM.alloc _))).mono ?_;rintro e w1 ⟨rfl,hB1⟩;have hbx:=cellOld (cellNew hB1))|(refine ⟨trivial,?_⟩;gi_at_call 98;refine (sets_in (n-1) _ _ _).mono ?_;rintro e w2 ⟨rfl,rfl⟩))
 have hs1:w.heap.size+1≤w1.heap.size:=by have:=hB1.size;simpa using this
 have bO:=((Boxed.new w1 22 (.slice none 0 0)).alloc (.cells #[.int .i64 (l.length:Int)] 3)).alloc (.cells #[.int .i64 (most:Int)] 3)
 have cN:=cellOld (Boxed.new (w1.alloc (.cells #[.slice none 0 0] 22)) 3 (.int .i64 (l.length:Int))).cell (.cells #[.int .i64 (most:Int)] 3)
 have cM:=(Boxed.new ((w1.alloc (.cells #[.slice none 0 0] 22)).alloc (.cells #[.int .i64 (l.length:Int)] 3)) 3 (.int .i64 (most:Int))).cell
 have hB0:Below w.heap.size w (((w1.alloc (.cells #[.slice none 0 0] 22)).alloc (.cells #[.int .i64 (l.length:Int)] 3)).alloc (.cells #[.int .i64 (most:Int)] 3)):=by
  have h2:Below w.heap.size w w1:=((Below.refl w.heap.size w).alloc (Nat.le_refl _) _).trans (hB1.mono (by simp))
  exact ((h2.alloc (by omega) _).alloc (by simp;omega) _).alloc (by simp;omega) _
 have hsz:(((w1.alloc (.cells #[.slice none 0 0] 22)).alloc (.cells #[.int .i64 (l.length:Int)] 3)).alloc (.cells #[.int .i64 (most:Int)] 3)).heap.size=w1.heap.size+3:=by simp
 rw[World.size_alloc]at cN
 rw[World.size_alloc,World.size_alloc]at cM
 generalize hW3:(((w1.alloc (.cells #[.slice none 0 0] 22)).alloc (.cells #[.int .i64 (l.length:Int)] 3)).alloc (.cells #[.int .i64 (most:Int)] 3))=w3 at *
 refine wpIn_rangeFunc_ownG rfl h1 (gf:=136) (lb:=#[.pointer (some ⟨w1.heap.size+1,0,none⟩),.pointer (some ⟨w1.heap.size+1+1,0,none⟩)]) rfl trivial (enters_of Tryz.func136 (by kernel_rfl) rfl)
  (sets_stops (n-1) (by omega) (w1.heap.size+1) (w1.heap.size+1+1) l.length most hlen.2 w3 cN cM) KpB.trans (fun W j o o' h _ _ _=>KpB.put W j o' (by omega) (by omega)) (Below.refl _ _) (fun _=>rfl)
  (fun pre W=>(∃v,Boxed W w1.heap.size 22 v∧W.ownsRow w3.heap.size 3 1 v pre.length (pre.map natV)∧True)∧Below w.heap.size w W∧w3.heap.size≤W.heap.size)
  (fun _ _ _=>False)
  (OwnFrom.and (Own.from (holdsRow_own w3.heap.size w1.heap.size 22 3 1 (fun pre:List Nat=>pre.length) (fun pre=>pre.map natV) (fun _ _=>True)) _) (OwnFrom.and (ownFrom_below (Nat.le_refl _) (by omega)) (fun _ _ _ _ h hg _=>Nat.le_trans h hg.size)))
  (fun _ _ _ _ _ hs _ _=>hs)
  ⟨⟨_,bO,World.ownsRow_nil _ _ _ _,trivial⟩,hB0,Nat.le_refl _⟩
  (fun x=>{tmps:=#[.agg #[.slice (some ⟨b,off,none⟩) l.length c],.int .i64 (most:Int),.pointer (some ⟨w.heap.size,0,none⟩),undef,.slice none 0 0,.int .i64 0,.pointer (some ⟨w1.heap.size,0,none⟩),.int .i64 (x:Int),.bool false,.agg #[.slice (some ⟨b,off,none⟩) l.length c],.bool true,.bool false,.bool false,.int .i64 (most:Int),.bool false,.bool false,.int .i64 (most:Int),.bool false,.bool false,.pointer (some ⟨w.heap.size,0,none⟩),.slice (some ⟨b,off,none⟩) l.length c,.int .i64 (l.length:Int),.int .i64 (most:Int),.func (.func 136) #[] #[.pointer (some ⟨w1.heap.size+1,0,none⟩),.pointer (some ⟨w1.heap.size+1+1,0,none⟩)],.int .i64 (x:Int),undef,undef,undef,undef,undef],defers:=[]}) ?assign ?body ?done ?stop
 case assign=>
  intro l x W K hK
  gi_wp2
  exact hK
 case body=>
  rintro l2 pre x W ⟨⟨v,hv,hrow,_⟩,hB,hsW⟩ hlt
  have hc:=hv.cell
  gi_wp2_with (gi_at_builtin;refine wpListIn_append_own _ rfl _ _ 22 rfl w3.heap.size 3 i0 (.int .i64 0) 1 8 Tryz.underlying22 hi hz0 hz1 hz2 rfl (by decide) _ _ _ rfl (hrow.alloc _) ⟨W.heap.size,0,none⟩ 1 1 [.int .i64 (x:Int)] rfl rfl (cell_one_new _ _ _) (by simp[Value.oneCell']) (by first|omega|(unfold maxLen;omega)) (by first|omega|(unfold maxLen;omega)) (by simp;omega) ?_;intro v' w4 hown' hgrow _;obtain ⟨g',cap',rfl⟩:=ownsRow_succ hown';obtain ⟨hv1,hv2,hr2,hk2,hb2⟩:=hv.appended (n₀:=w.heap.size) (by decide) (ownsRow_weak hrow (by omega)) hB.size (by omega) (ownsRow_weak hown' (by omega)) hgrow;have hc1:=hv1.cell;have hf1:=hv1.frozen)
  refine ⟨hk2.from _,KpB.app hrow hgrow (by omega) (by omega) hsW (by omega) (by omega),⟨_,hv2,?_,trivial⟩,hB.trans hb2,Nat.le_trans hsW (KpB.app (Bn:=w1.heap.size+1) (Bm:=w1.heap.size+1) hrow hgrow (by omega) (by omega) hsW (by omega) (by omega)).size⟩
  have hr3:=ownsRow_base hr2 hown'
  simpa [natV] using hr3
 case done=>
  rintro D ys W hD rfl ⟨⟨v,hv,hrow,_⟩,hB,_⟩ hK
  have hc:=hv.cell
  gi_wp2
  refine ⟨by simp,.inl ⟨_,_,rfl,run_takeDeferred hK,?_⟩⟩
  exact ⟨_,results_tmp2 rfl _ _ _,v,rfl,ownsRow_putObj (ownsRow_weak hrow (by omega)) _ hK rfl,hB.trans (belowK_b (w:=w) (Nat.le_refl _) W D _ _ (by omega) hK rfl rfl)⟩
 case stop=>
  rintro D c pre W _ _ h _
  exact h.elim
theorem SetsP_ok{M:Mem}{K:AV→Hp→Mem→Prop}{u:Value}{l:List Int}(hu:IsL M intV64 u l)(hl:chkL l=true)(most:Nat)(hm1:1≤most)(hm2:most≤2)
  (hK:∀v M',Mem.le M M'→IsL M' natV v (hyps l.length most)→FreshS M v→K (.ext (.tuple #[v,.int .i64 0])) [] M'):CallS Tryz.prog 43 [.ext (rngV u),.ext (.int .i64 (most:Int))] [] M [] K:=by
 intro ρ w us hh he
 obtain ⟨x,r,rfl,h1,y,r2,rfl,h2,h3⟩:=he
 have h1:x=rngV u:=h1
 have h2:y=.int .i64 (most:Int):=h2
 have h3:r2=[]:=h3
 subst h1 h2 h3
 refine (callsIn_wide.1 (Sets_in 3 (by omega) hu hl most hm1 hm2 w hh.sub)).mono fun e w' hall=>?_
 obtain ⟨v,e1,hrow,hB⟩:=hall
 have base:∀(M':Mem),Sub M' w'→Mem.le M M'→(∀b,M' b≠none→M b≠none∨w.heap.size≤b)→IsL M' natV v (hyps l.length most)→FreshS M v→
   ∃u v' H' M'' ρ',e=.returned u∧K v' H' M''∧Left [] [] M ρ ρ' w u v' H' M'' w':=fun M' hs hle hmem hi hf=>
  ⟨_,.ext (.tuple #[v,.int .i64 0]),[],M',ρ,e1,hK v M' hle hi hf,{is:=rfl,heap:=⟨fun k T cs b hk=>by simp[lkH]at hk,fun k T cs hk=>by simp[lkH]at hk,fun k k' b b' hk=>by simp[lkH]at hk,hs⟩,keep:=fun k hk=>by simp[lkH]at hk,same:=fun k _ _=>rfl,ment:=fun k _=>⟨by simp[AV.ment],fun j T cs hj=>by simp[lkH]at hj⟩,fresh:=fun k b hk=>by simp[lkH]at hk,os:=hB.os,tape:=hB.tape,output:=hB.output,size:=hB.size,block:=fun b hb _=>hB.block b hb,le:=hle,mem:=hmem}⟩
 have hsub:Sub M w':=fun b o hb=>by
  have:=hh.sub b o hb
  rw[hB.block b (Array.getElem?_eq_some_iff.1 this).1];exact this
 rcases hrow with ⟨hxl,⟨rfl,h0⟩|⟨g,cap,cur,rfl,hg,hcell,hn,hcap,hcs,hcx⟩⟩
 ·refine base M hsub (Mem.le.refl _) (fun b hb=>.inl hb) ?_ (freshS_nil _ _)
  have:hyps l.length most=[]:=List.eq_nil_of_length_eq_zero h0
  rw[this];exact isL_nil _ _ _
 ·have hMg:M g=none:=by
   cases e:M g with
   | none=>rfl
   | some o=>have:=(Array.getElem?_eq_some_iff.1 (hh.sub g o e)).1;omega
  refine base (Mem.set M g (.cells cur 3 (0,0))) (fun b o hb=>?_) (Mem.le_set hMg) (fun b hb=>?_) ?_ (.inr fun b off n c e=>by cases e;exact hMg)
  ·unfold Mem.set at hb
   split at hb
   ·rename_i e;cases hb;rw[e];exact hcell
   ·exact hsub b o hb
  ·unfold Mem.set at hb
   split at hb
   ·rename_i e;subst e;exact .inr hg
   ·exact .inl hb
  ·refine ⟨rfl,rfl,hn,by simp,?_⟩
   simp only[rowS]
   refine rowM_of (by simp) fun i v hi=>?_
   have hi2:i<(hyps l.length most).length*1:=by have:=(List.getElem?_eq_some_iff.1 hi).1;simpa using this
   rw[←hcx,List.getElem?_take_of_lt hi2]at hi
   simp only[cellM,Mem.set,if_true,Nat.zero_add]
   simpa using hi
end Go.Proofs.YtbclgnojcnkehaaGreat.Sx
namespace Go.Proofs.YtbclgnojcnkehaaGreat.Sx
open Go Go.RowKit
set_option linter.unusedVariables false
set_option linter.unusedSimpArgs false
set_option maxRecDepth 100000
set_option maxHeartbeats 8000000
attribute [local congr] fin_congr finG_congr stepG_congr step1_congr runOps_congr brv_congr obl_congr condK_congr LoopK_congr seqK_congr CutK_congr vc_congr DrawK_congr regK_congr CallK_congr AskK_congr newK_congr retC_congr ret1_congr retK_congr outV_congr closeK_congr genR_congr appR_congr finD_congr finGD_congr stepGD_congr stepD_congr CallK0_congr runD_congr okR_congr CallS_congr vcX_congr
section
variable {M:Mem}{K:AV→Hp→Mem→Prop}
def setsE(l:List Int)(most:Int):Int:=if chkL l=true then (if decide (1≤most∧most≤2)=true then 0 else 3) else 1
def setsL(l:List Int)(most:Int):List Nat:=if setsE l most=0 then hyps l.length most.toNat else []
theorem Sets_ok(u:Value)(l:List Int)(most:Int)(hu:IsL M intV64 u l)(hb:l.length<1000000000)
  (hK:∀v M',Mem.le M M'→IsL M' natV v (setsL l most)→FreshS M v→K (.ext (.tuple #[v,.int .i64 (setsE l most)])) [] M'):CallS Tryz.prog 43 [.ext (rngV u),.ext (.int .i64 most)] [] M [] K:=by
 cases hc:chkL l
 ·have e1:setsE l most=1:=by simp[setsE,hc]
  have e2:setsL l most=[]:=by simp[setsL,e1]
  rw[e1,e2]at hK
  have hK:=hK _ M (Mem.le.refl _) (isL_nil _ _ 0) (freshS_nil _ _)
  refine inlS (cs:=[]) Tryz.mixed Tryz.func43 rfl (by kernel_rfl) 0 rfl rfl ?_
  simp only[Tryz.f43,rngV]
  (replace hb0:=true_and True);have hf:=A2 hu.one hc;refine sV ?_;(repeat' ((first|((with_reducible first|refine brv_mk ?_ ?_|refine gsplitD ?_ ?_|refine gsplitG ?_ ?_)<;>intro h<;>(try simp only[Bool.not_eq_true',Bool.not_eq_false']at h)<;>replace hb0:=h)|((with_reducible refine yN ?_);refine kS 59 (pchk_ok u l hu hb ?_))|refine oB ?_|fail)<;>refine sV ?_<;>try with_reducible exact tT))<;>try clear hf
  exact hK
 ·cases hm:decide (1≤most∧most≤2)
  ·have e1:setsE l most=3:=by simp[setsE,hc,hm]
   have e2:setsL l most=[]:=by simp[setsL,e1]
   rw[e1,e2]at hK
   have hK:=hK _ M (Mem.le.refl _) (isL_nil _ _ 0) (freshS_nil _ _)
   have g:(decide (most<1) || decide (2<most))=true:=by
    simp only[decide_eq_false_iff_not]at hm
    simp only[Bool.or_eq_true,decide_eq_true_eq];omega
   refine inlS (cs:=[]) Tryz.mixed Tryz.func43 rfl (by kernel_rfl) 0 rfl rfl ?_
   simp only[Tryz.f43,rngV]
   (replace hb0:=true_and True);have hf:=A3 hu.one hc g;refine sV ?_;(repeat' ((first|((with_reducible first|refine brv_mk ?_ ?_|refine gsplitD ?_ ?_|refine gsplitG ?_ ?_)<;>intro h<;>(try simp only[Bool.not_eq_true',Bool.not_eq_false']at h)<;>replace hb0:=h)|((with_reducible refine yN ?_);refine kS 59 (pchk_ok u l hu hb ?_))|refine oB ?_|fail)<;>refine sV ?_<;>try with_reducible exact tT))<;>try clear hf
   all_goals exact hK
  ·simp only[decide_eq_true_eq]at hm
   obtain ⟨k,rfl⟩:=Int.eq_ofNat_of_zero_le (show 0≤most by omega)
   have e1:setsE l (k:Int)=0:=by simp only[setsE,hc,if_true];rw[if_pos (by simp;omega)]
   have e2:setsL l (k:Int)=hyps l.length k:=by simp[setsL,e1]
   rw[e1,e2]at hK
   exact SetsP_ok hu hc k (by omega) (by omega) hK
def setSt(M:Mem)(u:Value)(most m s:Nat)(L:List Nat):St:={env:=[(7,.ext (.int .i64 (s:Int))),(6,.slo 6 0 m 1),(5,.ext (.int .i64 0)),(4,.ext (.slice none 0 0)),(2,.own 2 0),(1,.ext (.int .i64 (most:Int)))],hp:=[(6,3,cE natV L),(2,33,[.ext u])],M:=M,kb:=0,fx:=[]}
theorem SetsR_ok(u:Value)(l:List Int)(most:Int)(hu:IsL M intV64 u l)(hb:l.length<1000000000)
  (hK:∀v M',Mem.le M M'→IsL M' natV v (setsL l most)→FreshS M v→K (.ext (.tuple #[v,.int .i64 (setsE l most)])) [] M'):CallS Tryz.prog 51 [.ext (rngV u),.ext (.int .i64 most)] [] M [] K:=by
 cases hc:chkL l
 ·have e1:setsE l most=1:=by simp[setsE,hc]
  have e2:setsL l most=[]:=by simp[setsL,e1]
  rw[e1,e2]at hK
  have hK:=hK _ M (Mem.le.refl _) (isL_nil _ _ 0) (freshS_nil _ _)
  refine inlS (cs:=[]) Tryz.mixed Tryz.func51 rfl (by kernel_rfl) 0 rfl rfl ?_
  simp only[Tryz.f51,rngV]
  (replace hb0:=true_and True);have hf:=A2 hu.one hc;refine sV ?_;(repeat' ((first|((with_reducible first|refine brv_mk ?_ ?_|refine gsplitD ?_ ?_|refine gsplitG ?_ ?_)<;>intro h<;>(try simp only[Bool.not_eq_true',Bool.not_eq_false']at h)<;>replace hb0:=h)|((with_reducible refine yN ?_);refine kS 95 (checkR_ok u l hu hb ?_))|refine oB ?_|fail)<;>refine sV ?_<;>try with_reducible exact tT))<;>try clear hf
  exact hK
 ·cases hm:decide (1≤most∧most≤2)
  ·have e1:setsE l most=3:=by simp[setsE,hc,hm]
   have e2:setsL l most=[]:=by simp[setsL,e1]
   rw[e1,e2]at hK
   have hK:=hK _ M (Mem.le.refl _) (isL_nil _ _ 0) (freshS_nil _ _)
   have g:(decide (most<1) || decide (2<most))=true:=by
    simp only[decide_eq_false_iff_not]at hm
    simp only[Bool.or_eq_true,decide_eq_true_eq];omega
   refine inlS (cs:=[]) Tryz.mixed Tryz.func51 rfl (by kernel_rfl) 0 rfl rfl ?_
   simp only[Tryz.f51,rngV]
   (replace hb0:=true_and True);have hf:=A3 hu.one hc g;refine sV ?_;(repeat' ((first|((with_reducible first|refine brv_mk ?_ ?_|refine gsplitD ?_ ?_|refine gsplitG ?_ ?_)<;>intro h<;>(try simp only[Bool.not_eq_true',Bool.not_eq_false']at h)<;>replace hb0:=h)|((with_reducible refine yN ?_);refine kS 95 (checkR_ok u l hu hb ?_))|refine oB ?_|fail)<;>refine sV ?_<;>try with_reducible exact tT))<;>try clear hf
   all_goals exact hK
  ·simp only[decide_eq_true_eq]at hm
   obtain ⟨k,rfl⟩:=Int.eq_ofNat_of_zero_le (show 0≤most by omega)
   have e1:setsE l (k:Int)=0:=by simp only[setsE,hc,if_true];rw[if_pos (by simp;omega)]
   have e2:setsL l (k:Int)=hyps l.length k:=by simp[setsL,e1]
   rw[e1,e2]at hK
   have hlen:=chk_len hc
   have g1:decide ((k:Int)<1)=false:=by simp;omega
   have g2:decide (2<(k:Int))=false:=by simp;omega
   have hs:=shl_one (i:=l.length) (by omega)
   have hT:2^l.length≤2^8:=Nat.pow_le_pow_right (by decide) hlen.2
   obtain ⟨T,hT'⟩:∃T:Nat,T=2^l.length:=⟨_,rfl⟩
   have hT1:1≤T:=by rw[hT'];exact Nat.one_le_two_pow
   unfold hyps at hK
   rw[←hT']at hs hT hK
   refine CallS.frzF ?_
   refine inlS (cs:=[]) Tryz.mixed Tryz.func51 rfl (by kernel_rfl) 0 rfl rfl ?_
   simp only[Tryz.f51,rngV]
   (replace hb0:=true_and True);have hf:=A4 hu.one hc g1 g2;refine sV ?_;(repeat' ((first|((with_reducible first|refine brv_mk ?_ ?_|refine gsplitD ?_ ?_|refine gsplitG ?_ ?_)<;>intro h<;>(try simp only[Bool.not_eq_true',Bool.not_eq_false']at h)<;>replace hb0:=h)|((with_reducible refine yN ?_);refine kS 95 (checkR_ok u l hu hb ?_))|refine oB ?_|fail)<;>refine sV ?_<;>try with_reducible exact tT))<;>try clear hf
   refine ⟨fun d z=>∃s m,1≤s∧s≤T∧d=T-s∧m=(hypTo k s).length∧z=setSt M u k m s (hypTo k s),⟨T-1,setSt M u k 0 1 [],(le_nil 6 6 3 1 rfl (.inl rfl)).trans (le_sub ⟨rfl,rfl,rfl,rfl,rfl,rfl,trivial⟩ ⟨rfl,rfl,trivial⟩ rfl rfl rfl (keepLt0 _)),⟨1,0,by omega,by omega,rfl,rfl,rfl⟩⟩,?_⟩
   rintro d z ⟨s,m,h1,h2,rfl,hm2,rfl⟩
   have hml:=hypTo_len k s
   by_cases hlt:s<T
   ·have d1:decide ((s:Int)<(T:Int))=true:=by simp;omega
    have hw:IntKind.i64.wrap ((s:Int)+1)=((s+1:Nat):Int):=by rw[wrap_id (by omega) (by omega)];omega
    have hlen2:(cE natV (hypTo k s)).length=m:=by rw[cE_len];exact hm2.symm
    cases hh:hypP k s
    ·have hd:decide (((ones s 8:Nat):Int)≤(k:Int))=false:=by
      simp only[hypP,Bool.and_eq_false_iff,decide_eq_false_iff_not]at hh ⊢;omega
     (replace hb0:=true_and True);have hf:=A8 hu.one hu.len hu.sl hs d1 hw @hd @setSt.eq_1;refine sV ?_;(repeat' ((first|((with_reducible first|refine brv_mk ?_ ?_|refine gsplitD ?_ ?_|refine gsplitG ?_ ?_)<;>intro h<;>(try simp only[Bool.not_eq_true',Bool.not_eq_false']at h)<;>replace hb0:=h)|((with_reducible refine yN ?_);refine kS 101 (size_ok s (by omega) ?_))|refine oB ?_|fail)<;>refine sV ?_<;>try with_reducible exact tT))<;>try clear hf
     exact ⟨T-(s+1),setSt M u k m (s+1) (hypTo k s),by omega,le_sub ⟨rfl,rfl,rfl,rfl,rfl,rfl,trivial⟩ ⟨rfl,rfl,trivial⟩ rfl rfl rfl (keepLt0 _),s+1,m,by omega,by omega,rfl,by rw[hypTo_miss hh];exact hm2,by rw[hypTo_miss hh];rfl⟩
    ·have hd:decide (((ones s 8:Nat):Int)≤(k:Int))=true:=by
      simp only[hypP,Bool.and_eq_true,decide_eq_true_eq]at hh ⊢;omega
     have hsn:cE natV (hypTo k s)++[.ext (.int .i64 (s:Int))]=cE natV (hypTo k (s+1)):=by
      rw[hypTo_hit hh];exact cE_snoc natV _ s
     (replace hb0:=true_and True);have hf:=A12 hu.one hu.len hu.sl hs d1 hw @hd @setSt.eq_1 hlen2 hsn @cE_ment @hasK_nil;refine sV ?_;(repeat' ((first|((with_reducible first|refine brv_mk ?_ ?_|refine gsplitD ?_ ?_|refine gsplitG ?_ ?_)<;>intro h<;>(try simp only[Bool.not_eq_true',Bool.not_eq_false']at h)<;>replace hb0:=h)|((with_reducible refine yN ?_);refine kS 101 (size_ok s (by omega) ?_))|refine oB ?_|fail)<;>refine sV ?_<;>try with_reducible exact tT))<;>try clear hf
     exact ⟨T-(s+1),setSt M u k (m+1) (s+1) (hypTo k (s+1)),by omega,le_sub ⟨rfl,rfl,rfl,rfl,rfl,rfl,trivial⟩ ⟨rfl,rfl,trivial⟩ rfl rfl rfl (keepLt0 _),s+1,m+1,by omega,by omega,rfl,by rw[hypTo_hit hh,List.length_append (bs:=[_]),hm2];rfl,rfl⟩
   ·have d1:decide ((s:Int)<(T:Int))=false:=by simp;omega
    have es:s=T:=by omega
    subst es
    (replace hb0:=true_and True);have hf:=A7 hu.one hu.len hu.sl hs d1 @setSt.eq_1 @cE_ment;refine sV ?_;(repeat' ((first|((with_reducible first|refine brv_mk ?_ ?_|refine gsplitD ?_ ?_|refine gsplitG ?_ ?_)<;>intro h<;>(try simp only[Bool.not_eq_true',Bool.not_eq_false']at h)<;>replace hb0:=h)|refine oB ?_|fail)<;>refine sV ?_<;>try with_reducible exact tT))<;>try clear hf
    refine FrzF.tup [] [.int .i64 0] ((hypTo k s).map natV) rfl (by rw[hm2];simp) (fun v M'' hM hsl hf=>hK v M'' hM ?_ hf)
    rw[hm2]at hsl
    exact hsl
end
attribute [local congr] Stop_congr
def posF(a b:List Nat):Bool:=chkF a b&&decide (0<a.length)
section
variable {M:Mem}{K:AV→Hp→Mem→Prop}{u u1 u2:Value}{l1 l2:List Nat}{L:List FR}
theorem lenZ{a:List Nat}:decide ((a.length:Int)=0) = !decide (0<a.length):=by
 by_cases h:0<a.length
 ·rw[decide_eq_true h,decide_eq_false (by omega)];rfl
 ·rw[decide_eq_false h,decide_eq_true (by omega)];rfl
theorem pnew1_ok(hu:IsF M u1 u2 l1 l2)(hK:∀M',Mem.le M M'→K (.ext (.bool (!innF l1 l2))) [] M'):CallS Tryz.prog 45 [.ext (.agg #[u1,u2])] [] M [] K:=by
 refine inlS (cs:=[]) Tryz.mixed Tryz.func45 rfl (by kernel_rfl) 0 rfl rfl ?_
 simp only[Tryz.f45]
 have h1:=hu.n.one
 have h2:=hu.d.one
 have hf:=A2 h1 h2;refine sF ?_;(repeat' ((first|((with_reducible refine yN ?_);refine kS 46 (inner_ok hu (fun M1 m1=>Stop.mk ?_)))|refine oB ?_|fail)<;>refine sF ?_<;>try with_reducible exact tT))<;>try clear hf
 have hk:=hK M1 m1
 refine Stop.go ?_
 have hf:=A2 h1 h2;refine sF ?_;(repeat' ((first|refine oB ?_|fail)<;>refine sF ?_<;>try with_reducible exact tT))<;>try clear hf
 exact hk
theorem pchk1_ok(hu:IsF M u1 u2 l1 l2)(hK:∀M',Mem.le M M'→K (.ext (.bool (!posF l1 l2))) [] M'):CallS Tryz.prog 61 [.ext (.agg #[u1,u2])] [] M [] K:=by
 refine inlS (cs:=[]) Tryz.mixed Tryz.func61 rfl (by kernel_rfl) 0 rfl rfl ?_
 simp only[Tryz.f61]
 have h1:=hu.n.one
 have h2:=hu.d.one
 have h3:=hu.n.len
 have h4:=hu.n.sl
 have hf:=A2 h1 h2;refine sF ?_;(repeat' ((first|((with_reducible refine yN ?_);refine kS 62 (fcheck_ok hu.n hu.d hu.on hu.od hu.bn hu.bd (fun M1 m1=>Stop.mk ?_)))|refine oB ?_|fail)<;>refine sF ?_<;>try with_reducible exact tT))<;>try clear hf
 have hk:=hK M1 m1
 unfold posF at hk
 cases hc:chkF l1 l2 with
 | false=>
  rw[hc]at hk
  refine Stop.go ?_
  have hf:=A5 h1 h2 h3 h4 hc;refine sF ?_;(repeat' ((first|refine oB ?_|fail)<;>refine sF ?_<;>try with_reducible exact tT))<;>try clear hf
  exact hk
 | true=>
  rw[hc]at hk
  rw[Bool.true_and,←lenZ]at hk
  refine Stop.go ?_
  have hf:=A5 h1 h2 h3 h4 hc;refine sF ?_;(repeat' ((first|refine oB ?_|fail)<;>refine sF ?_<;>try with_reducible exact tT))<;>try clear hf
  exact hk
def pnSt(M:Mem)(u:Value)(n i:Nat):St:={env:=[(8,.ext (.int .i64 (i:Int))),(7,.ext (.int .i64 (n:Int))),(4,.ext (.int .i64 0)),(1,.fn 45 []),(0,.ext u)],hp:=[],M:=M,kb:=0,fx:=[]}
theorem pnidx_ok(hu:IsR M 2 FR.c u L)(hL:okFL M L)(hb:L.length<1000000)(hK:∀M' (r:Int),Mem.le M M'→((r=-1∧L.all (fun x=>innF x.l1 x.l2)=true)∨(0≤r∧L.all (fun x=>innF x.l1 x.l2)=false))→K (.ext (.int .i64 r)) [] M'):CallS Tryz.prog 99 [.ext u,.fn 45 []] [] M [] K:=by
 refine inlS (cs:=[]) Tryz.mixed Tryz.func99 rfl (by kernel_rfl) 0 rfl rfl ?_
 simp only[Tryz.f99]
 have h1:=hu.one
 have h2:=hu.len
 have h3:=hu.sl
 have hf:=A3 h1 h2 h3;refine sF ?_;(repeat' ((first|refine oB ?_|fail)<;>refine sF ?_<;>try with_reducible exact tT))<;>try clear hf
 refine ⟨fun m z=>∃M' i,m=L.length-i∧i≤L.length∧Mem.le M M'∧(∀x∈L.take i,innF x.l1 x.l2=true)∧z=pnSt M' u L.length i,
  ⟨L.length,pnSt M u L.length 0,le_sub ⟨rfl,rfl,rfl,rfl,rfl,trivial⟩ trivial rfl rfl rfl (keepLt0 _),⟨M,0,by omega,by omega,Mem.le.refl _,by simp,rfl⟩⟩,?_⟩
 rintro m z ⟨M2,i,rfl,hi,hM,hp,rfl⟩
 have hu2:=hu.le hM
 have hL2:=hL.le hM
 by_cases hlt:i<L.length
 case neg=>
  obtain rfl:i=L.length:=by omega
  have e1:decide ((L.length:Int)<(L.length:Int))=false:=by simp
  have hk:=hK M2 (-1) hM (.inl ⟨rfl,by rw[List.take_of_length_le (Nat.le_refl _)]at hp;exact List.all_eq_true.2 hp⟩)
  have hf:=A3 @pnSt.eq_1 h1 e1;refine sF ?_;(repeat' ((first|refine oB ?_|fail)<;>refine sF ?_<;>try with_reducible exact tT))<;>try clear hf
  exact hk
 have e1:decide ((i:Int)<(L.length:Int))=true:=by rw[decide_eq_true_eq];omega
 have b1:(0:Int)≤(i:Int):=by omega
 have b2:(i:Int)<(L.length:Int):=by omega
 have hnn:=hu2.nn hlt
 have hat:=hu2.at (P:=Tryz.prog) (T:=27) (fun _=>rfl) tk27 tz27 hlt
 have hmem:=List.getElem_mem hlt
 have hF:=hL2 _ hmem
 have hnx:innF L[i].l1 L[i].l2=true→∀x∈L.take (i+1),innF x.l1 x.l2=true:=fun hx x hm=>by
  rw[List.take_add_one,List.getElem?_eq_getElem hlt]at hm
  rcases List.mem_append.1 hm with h1|h1
  ·exact hp x h1
  ·have:x=L[i]:=by simpa using h1
   rw[this];exact hx
 have wi:IntKind.i64.wrap ((i:Int)+1)=((i+1:Nat):Int):=succ_i (by omega)
 generalize L[i]=x at *
 obtain ⟨x1,x2,y1,y2⟩:=x
 have hat:lookM Tryz.prog 27 M2 (elemP u 2 i)=some (.agg #[x1,x2]):=hat
 have hF:IsF M2 x1 x2 y1 y2:=hF
 have p3:=hF.n.one
 have p4:=hF.d.one
 have hf:=A11 @pnSt.eq_1 h1 h2 h3 hnn e1 b1 b2 hat p3 p4;refine sF ?_;(repeat' ((first|((with_reducible refine yN ?_);refine kS 45 (pnew1_ok hF (fun M3 c1=>Stop.mk ?_)))|refine oB ?_|fail)<;>refine sF ?_<;>try with_reducible exact tT))<;>try clear hf
 have c1:Mem.le M2 M3:=c1
 refine Stop.go ?_
 cases hc:innF y1 y2 with
 | true=>
  have hf:=wi;refine sF ?_;(repeat' ((first|refine oB ?_|fail)<;>refine sF ?_<;>try with_reducible exact tT))<;>try clear hf
  exact ⟨L.length-(i+1),pnSt M3 u L.length (i+1),by omega,le_sub ⟨rfl,rfl,rfl,rfl,rfl,trivial⟩ trivial rfl rfl rfl (keepLt0 _),M3,i+1,rfl,by omega,hM.trans c1,hnx hc,rfl⟩
 | false=>
  have hk:=hK M3 i (hM.trans c1) (.inr ⟨by omega,by
   cases h:L.all (fun x=>innF x.l1 x.l2) with
   | false=>rfl
   | true=>have:=List.all_eq_true.1 h _ hmem;simp only at this;rw[this]at hc;cases hc⟩)
  have hf:=wi;refine sF ?_;(repeat' ((first|refine oB ?_|fail)<;>refine sF ?_<;>try with_reducible exact tT))<;>try clear hf
  exact hk
theorem pncont_ok(hu:IsR M 2 FR.c u L)(hL:okFL M L)(hb:L.length<1000000)(hK:∀M',Mem.le M M'→K (.ext (.bool (!L.all (fun x=>innF x.l1 x.l2)))) [] M'):CallS Tryz.prog 44 [.ext u,.fn 45 []] [] M [] K:=by
 refine inlS (cs:=[]) Tryz.mixed Tryz.func44 rfl (by kernel_rfl) 0 rfl rfl ?_
 simp only[Tryz.f44]
 have h1:=hu.one
 have hf:=h1;refine sF ?_;(repeat' ((first|((with_reducible refine yN ?_);refine kS 99 (pnidx_ok hu hL hb (fun M3 r c1 c2=>Stop.mk ?_)))|refine oB ?_|fail)<;>refine sF ?_<;>try with_reducible exact tT))<;>try clear hf
 have hk:=hK M3 c1
 have c2:(r=-1∧L.all (fun x=>innF x.l1 x.l2)=true)∨(0≤r∧L.all (fun x=>innF x.l1 x.l2)=false):=by assumption
 refine Stop.go ?_
 rcases c2 with ⟨rfl,h⟩|⟨h1,h⟩
 ·rw[h]at hk
  refine sU ?_;(repeat' ((first|refine oB ?_|fail)<;>refine sU ?_<;>try with_reducible exact tT))
  exact hk
 ·rw[h]at hk
  have d1:decide (0≤r)=true:=decide_eq_true h1
  have hf:=d1;refine sF ?_;(repeat' ((first|refine oB ?_|fail)<;>refine sF ?_<;>try with_reducible exact tT))<;>try clear hf
  exact hk
def pkSt(M:Mem)(u:Value)(n i:Nat):St:={env:=[(8,.ext (.int .i64 (i:Int))),(7,.ext (.int .i64 (n:Int))),(4,.ext (.int .i64 0)),(1,.fn 61 []),(0,.ext u)],hp:=[],M:=M,kb:=0,fx:=[]}
theorem pkidx_ok(hu:IsR M 2 FR.c u L)(hL:okFL M L)(hb:L.length<1000000)(hK:∀M' (r:Int),Mem.le M M'→((r=-1∧L.all (fun x=>posF x.l1 x.l2)=true)∨(0≤r∧L.all (fun x=>posF x.l1 x.l2)=false))→K (.ext (.int .i64 r)) [] M'):CallS Tryz.prog 99 [.ext u,.fn 61 []] [] M [] K:=by
 refine inlS (cs:=[]) Tryz.mixed Tryz.func99 rfl (by kernel_rfl) 0 rfl rfl ?_
 simp only[Tryz.f99]
 have h1:=hu.one
 have h2:=hu.len
 have h3:=hu.sl
 have hf:=A3 h1 h2 h3;refine sF ?_;(repeat' ((first|refine oB ?_|fail)<;>refine sF ?_<;>try with_reducible exact tT))<;>try clear hf
 refine ⟨fun m z=>∃M' i,m=L.length-i∧i≤L.length∧Mem.le M M'∧(∀x∈L.take i,posF x.l1 x.l2=true)∧z=pkSt M' u L.length i,
  ⟨L.length,pkSt M u L.length 0,le_sub ⟨rfl,rfl,rfl,rfl,rfl,trivial⟩ trivial rfl rfl rfl (keepLt0 _),⟨M,0,by omega,by omega,Mem.le.refl _,by simp,rfl⟩⟩,?_⟩
 rintro m z ⟨M2,i,rfl,hi,hM,hp,rfl⟩
 have hu2:=hu.le hM
 have hL2:=hL.le hM
 by_cases hlt:i<L.length
 case neg=>
  obtain rfl:i=L.length:=by omega
  have e1:decide ((L.length:Int)<(L.length:Int))=false:=by simp
  have hk:=hK M2 (-1) hM (.inl ⟨rfl,by rw[List.take_of_length_le (Nat.le_refl _)]at hp;exact List.all_eq_true.2 hp⟩)
  have hf:=A3 @pkSt.eq_1 h1 e1;refine sF ?_;(repeat' ((first|refine oB ?_|fail)<;>refine sF ?_<;>try with_reducible exact tT))<;>try clear hf
  exact hk
 have e1:decide ((i:Int)<(L.length:Int))=true:=by rw[decide_eq_true_eq];omega
 have b1:(0:Int)≤(i:Int):=by omega
 have b2:(i:Int)<(L.length:Int):=by omega
 have hnn:=hu2.nn hlt
 have hat:=hu2.at (P:=Tryz.prog) (T:=27) (fun _=>rfl) tk27 tz27 hlt
 have hmem:=List.getElem_mem hlt
 have hF:=hL2 _ hmem
 have hnx:posF L[i].l1 L[i].l2=true→∀x∈L.take (i+1),posF x.l1 x.l2=true:=fun hx x hm=>by
  rw[List.take_add_one,List.getElem?_eq_getElem hlt]at hm
  rcases List.mem_append.1 hm with h1|h1
  ·exact hp x h1
  ·have:x=L[i]:=by simpa using h1
   rw[this];exact hx
 have wi:IntKind.i64.wrap ((i:Int)+1)=((i+1:Nat):Int):=succ_i (by omega)
 generalize L[i]=x at *
 obtain ⟨x1,x2,y1,y2⟩:=x
 have hat:lookM Tryz.prog 27 M2 (elemP u 2 i)=some (.agg #[x1,x2]):=hat
 have hF:IsF M2 x1 x2 y1 y2:=hF
 have p3:=hF.n.one
 have p4:=hF.d.one
 have hf:=A11 @pkSt.eq_1 h1 h2 h3 hnn e1 b1 b2 hat p3 p4;refine sF ?_;(repeat' ((first|((with_reducible refine yN ?_);refine kS 61 (pchk1_ok hF (fun M3 c1=>Stop.mk ?_)))|refine oB ?_|fail)<;>refine sF ?_<;>try with_reducible exact tT))<;>try clear hf
 have c1:Mem.le M2 M3:=c1
 refine Stop.go ?_
 cases hc:posF y1 y2 with
 | true=>
  have hf:=wi;refine sF ?_;(repeat' ((first|refine oB ?_|fail)<;>refine sF ?_<;>try with_reducible exact tT))<;>try clear hf
  exact ⟨L.length-(i+1),pkSt M3 u L.length (i+1),by omega,le_sub ⟨rfl,rfl,rfl,rfl,rfl,trivial⟩ trivial rfl rfl rfl (keepLt0 _),M3,i+1,rfl,by omega,hM.trans c1,hnx hc,rfl⟩
 | false=>
  have hk:=hK M3 i (hM.trans c1) (.inr ⟨by omega,by
   cases h:L.all (fun x=>posF x.l1 x.l2) with
   | false=>rfl
   | true=>have:=List.all_eq_true.1 h _ hmem;simp only at this;rw[this]at hc;cases hc⟩)
  have hf:=wi;refine sF ?_;(repeat' ((first|refine oB ?_|fail)<;>refine sF ?_<;>try with_reducible exact tT))<;>try clear hf
  exact hk
theorem pkcont_ok(hu:IsR M 2 FR.c u L)(hL:okFL M L)(hb:L.length<1000000)(hK:∀M',Mem.le M M'→K (.ext (.bool (!L.all (fun x=>posF x.l1 x.l2)))) [] M'):CallS Tryz.prog 44 [.ext u,.fn 61 []] [] M [] K:=by
 refine inlS (cs:=[]) Tryz.mixed Tryz.func44 rfl (by kernel_rfl) 0 rfl rfl ?_
 simp only[Tryz.f44]
 have h1:=hu.one
 have hf:=h1;refine sF ?_;(repeat' ((first|((with_reducible refine yN ?_);refine kS 99 (pkidx_ok hu hL hb (fun M3 r c1 c2=>Stop.mk ?_)))|refine oB ?_|fail)<;>refine sF ?_<;>try with_reducible exact tT))<;>try clear hf
 have hk:=hK M3 c1
 have c2:(r=-1∧L.all (fun x=>posF x.l1 x.l2)=true)∨(0≤r∧L.all (fun x=>posF x.l1 x.l2)=false):=by assumption
 refine Stop.go ?_
 rcases c2 with ⟨rfl,h⟩|⟨h1,h⟩
 ·rw[h]at hk
  refine sU ?_;(repeat' ((first|refine oB ?_|fail)<;>refine sU ?_<;>try with_reducible exact tT))
  exact hk
 ·rw[h]at hk
  have d1:decide (0≤r)=true:=decide_eq_true h1
  have hf:=d1;refine sF ?_;(repeat' ((first|refine oB ?_|fail)<;>refine sF ?_<;>try with_reducible exact tT))<;>try clear hf
  exact hk
theorem cloneI_ok(u:Value)(l:List Int)(hu:IsL M intV64 u l)(hb:l.length<1000000000)(hK:∀w M',Mem.le M M'→IsL M' intV64 w l→FreshS M w→K (.ext w) [] M'):CallS Tryz.prog 50 [.ext u] [] M [] K:=by
 refine CallS.frzF ?_
 refine inlS (cs:=[]) Tryz.mixed Tryz.func50 rfl (by kernel_rfl) 0 rfl rfl ?_
 simp only[Tryz.f50]
 cases hn:nilS u with
 | true=>
  have hl:l=[]:=by
   rcases l with _|⟨a,r⟩
   ·rfl
   ·rw[hu.nn (i:=0) (by simp)]at hn;cases hn
  subst hl
  have hf:=A3 hn hu.one hu.sl;refine sF ?_;(repeat' ((first|refine oB ?_|fail)<;>refine sF ?_<;>try with_reducible exact tT))<;>try clear hf
  exact .inl (hK _ _ (Mem.le.refl _) (isL_nil _ _ _) (freshS_nil _ _))
 | false=>
  have hrow:=hu.row
  have h1:List.map AV.ext (List.map intV64 l)=cE intV64 l:=rfl
  have a1:allOne (cE intV64 l)=True:=eq_true (allOne_cE intV64 (fun _=>rfl) l)
  have a2:(l.length*8≤140737488355328)=True:=eq_true (by omega)
  have a3:(l.length≤maxLen)=True:=eq_true (by unfold maxLen;omega)
  have hf:=A12 hn hu.one hu.sl hu.len hrow h1 a1 a2 a3 @cE_ment @cE_kill (A3 @cE_len @hasK_nil @Nat.mul_one);refine sF ?_;(repeat' ((first|refine oB ?_|fail)<;>refine sF ?_<;>try with_reducible exact tT))<;>try clear hf
  exact FrzF.one (l.map intV64) rfl (by simp) fun w M' h1 h2 h3=>hK w M' h1 (by unfold IsL;exact h2) h3
def eqISt(M:Mem)(u1 u2:Value)(n i:Nat):St:={env:=[(13,.ext (.int .i64 (i:Int))),(12,.ext (.int .i64 (n:Int))),(1,.ext u2),(0,.ext u1)],hp:=[],M:=M,kb:=0,fx:=[]}
theorem equalI_ok(u1 u2:Value)(l1 l2:List Int)(h1:IsL M intV64 u1 l1)(h2:IsL M intV64 u2 l2)(hb:l1.length<1000000000)(hb2:l2.length<1000000000)(hK:K (.ext (.bool (decide (l1=l2)))) [] M):CallS Tryz.prog 60 [.ext u1,.ext u2] [] M [] K:=by
 refine inlS (cs:=[]) Tryz.mixed Tryz.func60 rfl (by kernel_rfl) 0 rfl rfl ?_
 simp only[Tryz.f60]
 by_cases hl:l1.length=l2.length
 ·have hl2:decide ((l1.length:Int)=(l2.length:Int))=true:=by simp[hl]
  have hf:=A5 h1.len h1.sl h2.len h2.sl hl2;refine sF ?_;(repeat' ((first|((with_reducible refine isE 16 (by decide) ?_);refine dR (rP 0 4 [] (rP 4 4 [3] [(8,[])])) (rgL 16 8 []) [] ?_)|refine oB ?_|fail)<;>refine sF ?_<;>try with_reducible exact tT))<;>try clear hf
  refine ⟨fun m z=>∃i,i≤l1.length∧l1.take i=l2.take i∧m=l1.length-i∧z=eqISt M u1 u2 l1.length i,⟨l1.length,eqISt M u1 u2 l1.length 0,le_sub ⟨rfl,rfl,rfl,rfl,trivial⟩ trivial rfl rfl rfl (keepLt0 _),⟨0,by omega,rfl,rfl,rfl⟩⟩,?_⟩
  rintro m z ⟨i,hi,hpre,rfl,rfl⟩
  by_cases hlt:i<l1.length
  ·have hlt2:i<l2.length:=by omega
   have f1:=h1.idx (P:=Tryz.prog) (T:=3) tk3 tz3 (by omega) hlt
   have f2:=h2.idx (P:=Tryz.prog) (T:=3) tk3 tz3 (by omega) hlt2
   by_cases he:l1[i]=l2[i]
   ·have d1:decide (l1[i]=l2[i])=true:=by simp[he]
    have hf:=A5 f1 f2 d1 @intV64.eq_1 @eqISt.eq_1;refine sF ?_;(repeat' ((first|((with_reducible refine isE 16 (by decide) ?_);refine dR (rP 0 4 [] (rP 4 4 [3] [(8,[])])) (rgL 16 8 []) [] ?_)|refine oB ?_|fail)<;>refine sF ?_<;>try with_reducible exact tT))<;>try clear hf
    refine ⟨l1.length-(i+1),eqISt M u1 u2 l1.length (i+1),by omega,le_sub ⟨rfl,rfl,rfl,rfl,trivial⟩ trivial rfl rfl rfl (keepLt0 _),i+1,by omega,?_,rfl,rfl⟩
    rw[List.take_succ_eq_append_getElem hlt,List.take_succ_eq_append_getElem hlt2,hpre,he]
   ·have d1:decide (l1[i]=l2[i])=false:=by simpa using he
    have hf:=A5 f1 f2 d1 @intV64.eq_1 @eqISt.eq_1;refine sF ?_;(repeat' ((first|((with_reducible refine isE 16 (by decide) ?_);refine dR (rP 0 4 [] (rP 4 4 [3] [(8,[])])) (rgL 16 8 []) [] ?_)|refine oB ?_|fail)<;>refine sF ?_<;>try with_reducible exact tT))<;>try clear hf
    have e:decide (l1=l2)=false:=by
     simp only[decide_eq_false_iff_not]
     intro e;subst e;exact he rfl
    rw[e]at hK;exact hK
  ·have f1:=h1.fin hlt
   have ei:i=l1.length:=by omega
   subst ei
   rw[List.take_length,hl,List.take_length]at hpre
   have e:decide (l1=l2)=true:=by simp[hpre]
   rw[e]at hK
   have hf:=A2 f1 @eqISt.eq_1;refine sF ?_;(repeat' ((first|((with_reducible refine isE 16 (by decide) ?_);refine dR (rP 0 4 [] (rP 4 4 [3] [(8,[])])) (rgL 16 8 []) [] ?_)|refine oB ?_|fail)<;>refine sF ?_<;>try with_reducible exact tT))<;>try clear hf
   exact hK
 ·have hl2:decide ((l1.length:Int)=(l2.length:Int))=false:=by simp;omega
  have e:decide (l1=l2)=false:=by
   simp only[decide_eq_false_iff_not]
   intro e;subst e;exact hl rfl
  rw[e]at hK
  have hf:=A5 h1.len h1.sl h2.len h2.sl hl2;refine sF ?_;(repeat' ((first|((with_reducible refine isE 16 (by decide) ?_);refine dR (rP 0 4 [] (rP 4 4 [3] [(8,[])])) (rgL 16 8 []) [] ?_)|refine oB ?_|fail)<;>refine sF ?_<;>try with_reducible exact tT))<;>try clear hf
  exact hK
end
def hI(l:List Int)(m:Int):List Int:=(setsL l m).map fun (x:Nat)=>(x:Int)
def chkS(l s:List Int):Bool:=decide (hI l 1=s) || decide (hI l 2=s)
def oneS(L:List FR):Bool:=decide ((sumF L).1=0)&&decide (cmpF (ofN (sumF L).2.1) (ofN (sumF L).2.2) (ofN 1) (ofN 1)=0)
def chkB(l s:List Int)(L:List FR):Bool:=chkL l&&(decide (s.length=L.length)&&(chkS l s&&(L.all (fun x=>posF x.l1 x.l2)&&oneS L)))
theorem lenIE{a b:Nat}:decide ((a:Int)=(b:Int))=decide (a=b):=by
 by_cases h:a=b
 ·subst h;simp
 ·rw[decide_eq_false h,decide_eq_false (by omega)]
theorem hI_len(l:List Int)(m:Int):(hI l m).length<1000000:=by
 unfold hI setsL
 rw[List.length_map]
 split
 ·rename_i h
  unfold setsE at h
  split at h
  ·rename_i h1
   have:=hypTo_len m.toNat (2^l.length)
   have h2:2^l.length≤2^8:=Nat.pow_le_pow_right (by decide) (chk_len h1).2
   unfold hyps
   omega
  ·cases h
 ·simp
def fndP(l s:List Int)(i:Nat)(f:Bool):Prop:=(i=1∧f=false)∨(i=2∧f=decide (hI l 1=s))∨(i=3∧f=chkS l s)
theorem fndP.next{l s:List Int}{i:Nat}{f:Bool}(h:fndP l s i f)(hi:i<3):fndP l s (i+1) (f || decide (hI l (i:Int)=s)):=by
 rcases h with ⟨rfl,rfl⟩|⟨rfl,rfl⟩|⟨rfl,rfl⟩
 ·exact .inr (.inl ⟨rfl,by simp⟩)
 ·exact .inr (.inr ⟨rfl,rfl⟩)
 ·omega
section
variable {M:Mem}{K:AV→Hp→Mem→Prop}{ur us uw:Value}{l s:List Int}{L:List FR}
def pckSt(M:Mem)(ur us uw:Value)(i:Nat)(f:Bool):St:={env:=[(4,.ext (.int .i64 (i:Int))),(3,.ext (.bool f)),(2,.ext (.bool false)),(1,.own 1 0)],hp:=[(1,40,[.ext ur,.ext us,.ext uw])],M:=M,kb:=0,fx:=[]}
theorem pcheck_ok(h1:IsL M intV64 ur l)(h2:IsL M intV64 us s)(h3:IsR M 2 FR.c uw L)(h4:okFL M L)(b1:l.length<1000000)(b2:s.length<1000000)(b3:L.length<1000000)(hK:∀M',Mem.le M M'→K (.ext (.bool (chkB l s L))) [] M'):CallS Tryz.prog 18 [.ext (.agg #[ur,us,uw])] [] M [] K:=by
 refine inlS (cs:=[]) Tryz.mixed Tryz.func18 rfl (by kernel_rfl) 0 rfl rfl ?_
 simp only[Tryz.f18]
 have o1:=h1.one
 have o2:=h2.one
 have o3:=h3.one
 have n2:=h2.len
 have n3:=h3.len
 have s2:=h2.sl
 have s3:=h3.sl
 unfold chkB at hK
 cases hc:chkL l with
 | false=>
  rw[hc]at hK
  have hk:=hK M (Mem.le.refl _)
  have hf:=A8 o1 o2 o3 n2 n3 s2 s3 hc;refine sF ?_;(repeat' ((first|((with_reducible refine yN ?_);refine kS 59 (pchk_ok ur l h1 (by omega) ?_))|refine oB ?_|fail)<;>refine sF ?_<;>try with_reducible exact tT))<;>try clear hf
  exact hk
 | true=>
 rw[hc,Bool.true_and]at hK
 cases hl:decide (s.length=L.length) with
 | false=>
  rw[hl]at hK
  rw[←lenIE]at hl
  have hk:=hK M (Mem.le.refl _)
  have hf:=A9 o1 o2 o3 n2 n3 s2 s3 hc hl;refine sF ?_;(repeat' ((first|((with_reducible refine yN ?_);refine kS 59 (pchk_ok ur l h1 (by omega) ?_))|refine oB ?_|fail)<;>refine sF ?_<;>try with_reducible exact tT))<;>try clear hf
  exact hk
 | true=>
 rw[hl,Bool.true_and]at hK
 rw[←lenIE]at hl
 have hf:=A9 o1 o2 o3 n2 n3 s2 s3 hc hl;refine sF ?_;(repeat' ((first|((with_reducible refine yN ?_);refine kS 59 (pchk_ok ur l h1 (by omega) ?_))|refine oB ?_|fail)<;>refine sF ?_<;>try with_reducible exact tT))<;>try clear hf
 refine ⟨fun m z=>∃M' i f,i≤3∧m=3-i∧Mem.le M M'∧fndP l s i f∧z=pckSt M' ur us uw i f,
  ⟨2,pckSt M ur us uw 1 false,le_sub ⟨rfl,rfl,rfl,rfl,trivial⟩ ⟨rfl,trivial⟩ rfl rfl rfl (keepLt0 _),⟨M,1,false,by omega,by omega,Mem.le.refl _,.inl ⟨rfl,rfl⟩,rfl⟩⟩,?_⟩
 rintro m z ⟨M2,i,f,hi,rfl,hM,hf,rfl⟩
 by_cases hlt:i<3
 case neg=>
  obtain rfl:i=3:=by omega
  have hf3:f=chkS l s:=by
   rcases hf with ⟨h,_⟩|⟨h,_⟩|⟨_,h⟩
   ·cases h
   ·cases h
   ·exact h
  rw[←hf3]at hK
  have g1:decide (((3:Nat):Int)≤2)=false:=by decide
  cases f with
  | false=>
   have hk:=hK M2 hM
   have hf:=A9 @pckSt.eq_1 o1 o2 o3 n2 n3 s2 s3 g1;refine sF ?_;(repeat' ((first|refine oB ?_|fail)<;>refine sF ?_<;>try with_reducible exact tT))<;>try clear hf
   exact hk
  | true=>
  rw[Bool.true_and]at hK
  have hf:=A9 @pckSt.eq_1 o1 o2 o3 n2 n3 s2 s3 g1;refine sF ?_;(repeat' ((first|((with_reducible refine yN ?_);refine kS 44 (pkcont_ok (h3.le hM) (h4.le hM) b3 (fun M3 m3=>Stop.mk ?_)))|refine oB ?_|fail)<;>refine sF ?_<;>try with_reducible exact tT))<;>try clear hf
  have m3:Mem.le M2 M3:=m3
  cases hp:L.all (fun x=>posF x.l1 x.l2) with
  | false=>
   rw[hp]at hK
   have hk:=hK M3 (hM.trans m3)
   refine Stop.go ?_
   have hf:=A8 o1 o2 o3 n2 n3 s2 s3 hp;refine sF ?_;(repeat' ((first|refine oB ?_|fail)<;>refine sF ?_<;>try with_reducible exact tT))<;>try clear hf
   exact hk
  | true=>
  rw[hp,Bool.true_and]at hK
  unfold oneS at hK
  refine Stop.go ?_
  have hf:=A8 o1 o2 o3 n2 n3 s2 s3 hp;refine sF ?_;(repeat' ((first|((with_reducible refine yN ?_);refine kS 63 (fsum_ok ((h3.le hM).le m3) ((h4.le hM).le m3) b3 (fun w1 w2 M4 m4 a1 a2 _ _=>Stop.mk ?_)))|((with_reducible refine isE 53 (by decide) ?_);refine dR (rP 0 4 [] ((4,[3]) :: (rP 5 4 [] []))) [56,57] [] ?_)|refine oB ?_|fail)<;>refine sF ?_<;>try with_reducible exact tT))<;>try clear hf
  have m4:Mem.le M3 M4:=m4
  have hs:=okFL_sum a1 a2
  have p1:=a1.one
  have p2:=a2.one
  cases h0:decide ((sumF L).1=0) with
  | false=>
   rw[h0]at hK
   have hk:=hK M4 (hM.trans (m3.trans m4))
   refine Stop.go ?_
   have hf:=A6 o1 o2 o3 p1 p2 h0;refine sF ?_;(repeat' ((first|((with_reducible refine isE 53 (by decide) ?_);refine dR (rP 0 4 [] ((4,[3]) :: (rP 5 4 [] []))) [56,57] [] ?_)|refine oB ?_|fail)<;>refine sF ?_<;>try with_reducible exact tT))<;>try clear hf
   exact hk
  | true=>
  rw[h0,Bool.true_and]at hK
  refine Stop.go ?_
  have hf:=A6 o1 o2 o3 p1 p2 h0;refine sF ?_;(repeat' ((first|((with_reducible refine yM ?_);refine kS 65 (pwhole_ok (fun w3 w4 M5 m5 a5 _ _=>Stop.mk ?_)))|((with_reducible refine isE 53 (by decide) ?_);refine dR (rP 0 4 [] ((4,[3]) :: (rP 5 4 [] []))) [56,57] [] ?_)|refine oB ?_|fail)<;>refine sF ?_<;>try with_reducible exact tT))<;>try clear hf
  have m5:Mem.le M4 M5:=m5
  have p3:=a5.n.one
  have p4:=a5.d.one
  refine Stop.go ?_
  have hf:=A8 o1 o2 o3 p1 p2 p3 p4 h0;refine sF ?_;(repeat' ((first|((with_reducible refine yM ?_);refine kS 64 (fcmp_ok (hs.le m5) a5 (fun M6 m6=>Stop.mk ?_)))|((with_reducible refine isE 53 (by decide) ?_);refine dR (rP 0 4 [] ((4,[3]) :: (rP 5 4 [] []))) [56,57] [] ?_)|refine oB ?_|fail)<;>refine sF ?_<;>try with_reducible exact tT))<;>try clear hf
  have hk:=hK M6 (hM.trans (m3.trans (m4.trans (m5.trans m6))))
  refine Stop.go ?_
  have hf:=A8 o1 o2 o3 p1 p2 p3 p4 h0;refine sF ?_;(repeat' ((first|((with_reducible refine isE 53 (by decide) ?_);refine dR (rP 0 4 [] ((4,[3]) :: (rP 5 4 [] []))) [56,57] [] ?_)|refine oB ?_|fail)<;>refine sF ?_<;>try with_reducible exact tT))<;>try clear hf
  exact hk
 have g1:decide ((i:Int)≤2)=true:=by rw[decide_eq_true_eq];omega
 have wi:IntKind.i64.wrap ((i:Int)+1)=((i+1:Nat):Int):=succ_i (by omega)
 have hf2:=hf.next hlt
 clear hf
 have hf:=A9 @pckSt.eq_1 o1 o2 o3 n2 n3 s2 s3 g1;refine sF ?_;(repeat' ((first|((with_reducible refine yN ?_);refine kS 43 (Sets_ok ur l (i:Int) (h1.le hM) (by omega) (fun v M3 m3 a3 _=>Stop.mk ?_)))|refine oB ?_|fail)<;>refine sF ?_<;>try with_reducible exact tT))<;>try clear hf
 have m3:Mem.le M2 M3:=m3
 have a3:=a3.nat
 have p1:=a3.one
 refine Stop.go ?_
 cases f with
 | true=>
  have hf:=A9 o1 o2 o3 n2 n3 s2 s3 p1 wi;refine sF ?_;(repeat' ((first|refine oB ?_|fail)<;>refine sF ?_<;>try with_reducible exact tT))<;>try clear hf
  exact ⟨3-(i+1),pckSt M3 ur us uw (i+1) true,by omega,le_sub ⟨rfl,rfl,rfl,rfl,trivial⟩ ⟨rfl,trivial⟩ rfl rfl rfl (keepLt0 _),M3,i+1,true,by omega,rfl,hM.trans m3,hf2,rfl⟩
 | false=>
  have hf:=A9 o1 o2 o3 n2 n3 s2 s3 p1 wi;refine sF ?_;(repeat' ((first|((with_reducible refine yN ?_);refine kS 60 (equalI_ok v us _ s a3 ((h2.le hM).le m3) (by have:=hI_len l i;unfold hI at this;omega) (by omega) ?_))|refine oB ?_|fail)<;>refine sF ?_<;>try with_reducible exact tT))<;>try clear hf
  exact ⟨3-(i+1),pckSt M3 ur us uw (i+1) (decide (hI l (i:Int)=s)),by omega,le_sub ⟨rfl,rfl,rfl,rfl,trivial⟩ ⟨rfl,trivial⟩ rfl rfl rfl (keepLt0 _),M3,i+1,_,by omega,rfl,hM.trans m3,hf2,rfl⟩
end
section
variable {M:Mem}{K:AV→Hp→Mem→Prop}{ur us uw:Value}{l s:List Int}{L:List FR}
end
theorem Fz.flat{z:St}{B:St→Prop}{k n w:Nat}{T:TypeId}(t:Nat)(cs:List Value)(E:Env)(R:Hp)(ht:lk z.env t=.slo k 0 n w)(hk:lkH z.hp k=some (T,cs.map .ext))(hn:cs.length=n*w)(hkb:z.kb≤k)
  (hE:subE E z.env) (hE1:hasK k (mentE E)=false) (hR:subHp R z.hp) (hR1:hasK k (mentH R)=false) (hkeep:keepLt z.kb R z.hp) (hfx:∀k,k<z.kb→(lkH z.hp k).isSome=true→k∈z.fx)
  (h:∀M' U,Mem.le z.M M'→SlM M' w U n cs→FreshS z.M U→B {env:=(t,.ext U) :: E,hp:=R,M:=M',kb:=z.kb,fx:=z.fx,fr:=z.fr}):Fz z B:=by
 have hlk:∀j x,lkH [(k,T,cs.map AV.ext)] j=some x→j=k∧x=(T,cs.map .ext):=fun j x h=>by
  simp only[lkH]at h
  split at h
  ·rename_i e;cases h;exact ⟨e.symm,rfl⟩
  ·cases h
 have hc:closedH [(k,T,cs.map AV.ext)]:=fun j T' ds q hj hq=>by
  obtain ⟨_,e⟩:=hlk j _ hj
  cases e
  rw[mentL_ext]at hq;cases hq
 have hs:∀j,(lkH [(k,T,cs.map AV.ext)] j).isSome=true→j=k:=fun j hj=>by
  obtain ⟨x,hx⟩:=Option.isSome_iff_exists.1 hj
  exact (hlk j x hx).1
 refine Fz.frz [(k,T,cs.map .ext)] [t] E R hc (fun j x hx=>?_) hE (fun j h1 h2=>?_) hR (fun j h1 h2=>?_) hkeep hfx (fun M' ρ v us hM hh hu=>?_)
 ·obtain ⟨rfl,rfl⟩:=hlk j x hx
  exact ⟨hk,hkb⟩
 ·exact hasK_no.1 hE1 (hs j h1▸h2)
 ·exact hasK_no.1 hR1 (hs j h1▸h2)
 ·have h1:=hu t
  rw[ht]at h1
  have h2:=borI_is hh _ _ (fun j hj=>by
   have:j=k:=by simpa [AV.ment] using hj
   subst this
   simp[lkH]) h1
  obtain ⟨h3,h4⟩:=h2
  have h5:=h4 T cs (by simp[lkH]) (by omega)
  rw[List.drop_zero,List.take_of_length_le (by omega)]at h5
  exact h M' (us t) hM h5 h3
abbrev LP:=List Nat×List Nat
def prV(x:FR):LP:=(x.l1,x.l2)
def facE(s j:Nat)(x:FR):LP:=if s.testBit j then (x.l1,x.l2) else (ofN (othF x.l1 x.l2).1,ofN (othF x.l1 x.l2).2)
def facG(s:Nat):Nat→List FR→List LP
 | _,[]=>[]
 | j,x :: r=>facE s j x :: facG s (j+1) r
theorem facG_len(s:Nat):∀(L:List FR) (j:Nat),(facG s j L).length=L.length
 | [],_=>rfl
 | x :: r,j=>by rw[facG,List.length_cons,facG_len s r,List.length_cons]
theorem facG_take(s:Nat):∀(L:List FR) (j i:Nat) (h:i<L.length),(facG s j L).take (i+1)=(facG s j L).take i++[facE s (j+i) L[i]]
 | x :: r,j,0,_=>by simp[facG]
 | x :: r,j,i+1,h=>by
  rw[facG,List.take_succ_cons,List.take_succ_cons,facG_take s r (j+1) i (by simpa using h),List.cons_append,List.getElem_cons_succ,show j+1+i=j+(i+1) by omega]
def prodV(n d:Nat):List LP→Int×Nat×Nat
 | []=>(0,n,d)
 | x :: r=>if (mulF (ofN n) (ofN d) x.1 x.2).1=0 then prodV (mulF (ofN n) (ofN d) x.1 x.2).2.1 (mulF (ofN n) (ofN d) x.1 x.2).2.2 r else ((mulF (ofN n) (ofN d) x.1 x.2).1,0,0)
theorem prodG_V:∀(L:List FR) (n d:Nat),prodG n d L=prodV n d (L.map prV)
 | [],_,_=>rfl
 | x :: r,n,d=>by rw[prodG_cons,List.map_cons,prodV,prodG_V r];rfl
def prodI(n d:Nat):List LP→Nat×Nat
 | []=>(n,d)
 | x :: r=>prodI (mulF (ofN n) (ofN d) x.1 x.2).2.1 (mulF (ofN n) (ofN d) x.1 x.2).2.2 r
theorem prodV_I:∀(X:List LP) (n d:Nat),(prodV n d X).1=0→prodV n d X=(0,prodI n d X)
 | [],_,_,_=>rfl
 | x :: r,n,d,h=>by
  rw[prodV]at h ⊢
  rw[prodI]
  split at h
  ·rename_i h1;rw[if_pos h1];exact prodV_I r _ _ h
  ·rename_i h1;exact absurd h h1
def newW(P:List FR)(s:Nat):Nat×Nat:=prodI 1 1 (facG s 0 P)
def qFR(q:Nat×Nat):FR:=⟨.slice none 0 0,.slice none 0 0,ofN q.1,ofN q.2⟩
def normQ(qs:List (Nat×Nat)):Int×List (Nat×Nat):=normF (qs.map qFR)
theorem sumG_cong:∀(L L':List FR) (n d:Nat),L.map prV=L'.map prV→sumG n d L=sumG n d L'
 | [],[],_,_,_=>rfl
 | [],_ :: _,_,_,h=>by simp at h
 | _ :: _,[],_,_,h=>by simp at h
 | x :: r,y :: q,n,d,h=>by
  rw[List.map_cons,List.map_cons,List.cons.injEq]at h
  have h1:x.l1=y.l1∧x.l2=y.l2:=Prod.mk.injEq ..▸h.1
  rw[sumG_cons,sumG_cons,h1.1,h1.2,sumG_cong r q _ _ h.2]
theorem divG_cong:∀(L L':List FR) (n d:Nat),L.map prV=L'.map prV→divG n d L=divG n d L'
 | [],[],_,_,_=>rfl
 | [],_ :: _,_,_,h=>by simp at h
 | _ :: _,[],_,_,h=>by simp at h
 | x :: r,y :: q,n,d,h=>by
  rw[List.map_cons,List.map_cons,List.cons.injEq]at h
  have h1:x.l1=y.l1∧x.l2=y.l2:=Prod.mk.injEq ..▸h.1
  rw[divG_cons,divG_cons,h1.1,h1.2,divG_cong r q _ _ h.2]
theorem all_cong(f:List Nat→List Nat→Bool):∀(L L':List FR),L.map prV=L'.map prV→L.all (fun x=>f x.l1 x.l2)=L'.all (fun x=>f x.l1 x.l2)
 | [],[],_=>rfl
 | [],_ :: _,h=>by simp at h
 | _ :: _,[],h=>by simp at h
 | x :: r,y :: q,h=>by
  rw[List.map_cons,List.map_cons,List.cons.injEq]at h
  have h1:x.l1=y.l1∧x.l2=y.l2:=Prod.mk.injEq ..▸h.1
  rw[List.all_cons,List.all_cons,h1.1,h1.2,all_cong f r q h.2]
theorem sumF_cong{L L':List FR}(h:L.map prV=L'.map prV):sumF L=sumF L':=by
 unfold sumF
 rw[all_cong chkF L L' h,sumG_cong L L' 0 1 h]
theorem normF_cong{L L':List FR}(h:L.map prV=L'.map prV):normF L=normF L':=by
 unfold normF
 rw[sumF_cong h,divG_cong L L' _ _ h]
theorem normF_Q{L:List FR}{qs:List (Nat×Nat)}(h:L.map prV=qs.map fun q=>(ofN q.1,ofN q.2)):normF L=normQ qs:=normF_cong (by rw[h,List.map_map];rfl)
structure BR where
 e:Int
 l:List Int
 s:List Nat
 q:List (Nat×Nat)
def errB(e:Int):BR:=⟨e,[],[],[]⟩
def okB(l:List Int)(s:List Nat)(r:Int×List (Nat×Nat)):BR:=if r.1=0 then ⟨0,l,s,r.2⟩ else errB r.1
def newB(l:List Int)(P:List FR)(m:Int):BR:=
 if setsE l m=0 then (if P.length=l.length then (if P.all (fun x=>innF x.l1 x.l2) then okB l (setsL l m) (normQ ((setsL l m).map (newW P))) else errB 41) else errB 1) else errB (setsE l m)
def BelK(M:Mem)(K:AV→Hp→Mem→Prop)(r:BR):Prop:=∀ur us uw M',Mem.le M M'→IsL M' intV64 ur r.l→IsL M' natV us r.s→FQ M' uw r.q→K (.ext (.tuple #[.agg #[ur,us,uw],.int .i64 r.e])) [] M'
theorem BelK.err{M M':Mem}{K:AV→Hp→Mem→Prop}{e:Int}(h:BelK M K (errB e))(hM:Mem.le M M'):K (.ext (.tuple #[.agg #[.slice none 0 0,.slice none 0 0,.slice none 0 0],.int .i64 e])) [] M':=
 h _ _ _ M' hM (isL_nil _ _ _) (isL_nil _ _ _) (fq_nil _)
theorem in_bit0(s i:Nat)(h:s<2^63):decide (bits .and .i64 ((s >>> i:Nat):Int) 1=0) = !s.testBit i:=by
 have h1:=in_bit s i h
 have h2:bits .and .i64 ((s >>> i:Nat):Int) ((1:Nat):Int)=((((s >>> i:Nat) &&& 1:Nat)):Int):=bits_and (Nat.lt_of_le_of_lt (by rw[Nat.shiftRight_eq_div_pow];exact Nat.div_le_self _ _) h) (by omega)
 have h3:((s >>> i) &&& 1)=0∨((s >>> i) &&& 1)=1:=by
  rw[Nat.and_one_is_mod];omega
 rw[show ((1:Nat):Int)=1 from rfl]at h2
 rw[h2]at h1 ⊢
 rw[←h1]
 rcases h3 with h3|h3<;>rw[h3]<;>rfl
def BelKF(M:Mem)(K:AV→Hp→Mem→Prop)(r:BR):Prop:=∀ur us uw M',Mem.le M M'→IsL M' intV64 ur r.l→IsL M' natV us r.s→FQF M M' uw r.q→FreshS M ur→FreshS M us→K (.ext (.tuple #[.agg #[ur,us,uw],.int .i64 r.e])) [] M'
theorem BelKF.err{M M':Mem}{K:AV→Hp→Mem→Prop}{e:Int}(h:BelKF M K (errB e))(hM:Mem.le M M'):K (.ext (.tuple #[.agg #[.slice none 0 0,.slice none 0 0,.slice none 0 0],.int .i64 e])) [] M':=
 h _ _ _ M' hM (isL_nil _ _ _) (isL_nil _ _ _) (fqf_nil _ _) (freshS_nil _ _) (freshS_nil _ _)
section
variable {M:Mem}{K:AV→Hp→Mem→Prop}{ur up:Value}{l:List Int}{P:List FR}
def nwSt(M:Mem)(ur up us:Value)(n k:Nat)(D:List FR):St:={env:=[(44,.ext (.int .i64 (k:Int))),(43,.ext (.int .i64 (n:Int))),(42,.ext us),(10,.slo 41 0 n 2),(8,.ext us),(6,.own 6 0),(3,.own 3 0),(1,.ext up)],hp:=[(41,27,frC (D++List.replicate (n-k) zFR)),(6,40,[.ext (.slice none 0 0),.ext (.slice none 0 0),.ext (.slice none 0 0)]),(3,33,[.ext ur])],M:=M,kb:=0,fx:=[]}
def nwSt2(M:Mem)(ur up us:Value)(n k s np j:Nat)(D E:List FR):St:={env:=[(51,.ext (.int .i64 (j:Int))),(50,.ext (.int .i64 (np:Int))),(49,.ext up),(13,.slo 13 0 j 2),(12,.ext (.int .i64 (s:Int))),(11,.ext (.int .i64 (k:Int))),(44,.ext (.int .i64 (k:Int))),(43,.ext (.int .i64 (n:Int))),(42,.ext us),(10,.slo 41 0 n 2),(8,.ext us),(6,.own 6 0),(3,.own 3 0),(1,.ext up)],hp:=[(13,27,frC E),(41,27,frC (D++List.replicate (n-k) zFR)),(6,40,[.ext (.slice none 0 0),.ext (.slice none 0 0),.ext (.slice none 0 0)]),(3,33,[.ext ur])],M:=M,kb:=0,fx:=[]}
theorem pnewF_ok(m:Int)(h1:IsL M intV64 ur l)(h2:IsR M 2 FR.c up P)(h3:okFL M P)(b1:l.length<1000000)(b2:P.length<1000000)
  (hpr:P.all (fun x=>innF x.l1 x.l2)=true→P.length≤8→∀s,(prodV 1 1 (facG s 0 P)).1=0) (hK:BelKF M K (newB l P m)):CallS Tryz.prog 15 [.ext (.agg #[ur]),.ext up,.ext (.int .i64 m)] [] M [] K:=by
 refine inlS (cs:=[24]) Tryz.mixed Tryz.func15 rfl (by kernel_rfl) 0 rfl rfl ?_
 simp only[Tryz.f15]
 have o1:=h1.one
 have n1:=h1.len
 have s1:=h1.sl
 have o2:=h2.one
 have n2:=h2.len
 have s2:=h2.sl
 unfold newB at hK
 (try with_reducible refine Fz.of ?_);have hf:=A6 o1 o2 n1 n2 s1 s2;refine sF ?_;(repeat' ((first|((with_reducible refine yN ?_);refine kS 43 (Sets_ok ur l m h1 (by omega) (fun us M1 m1 a1 afr=>Stop.mk ?_)))|refine oB ?_|fail)<;>refine sF ?_<;>try with_reducible exact tT))<;>try clear hf
 have m1:Mem.le M M1:=m1
 have o3:=a1.one
 have n3:=a1.len
 have s3:=a1.sl
 by_cases he:setsE l m=0
 case neg=>
  rw[if_neg he]at hK
  have hk:=hK.err m1
  have e1:decide (setsE l m=0)=false:=decide_eq_false he
  refine Stop.go ?_
  (try with_reducible refine Fz.of ?_);have hf:=A4 o1 o2 o3 e1;refine sF ?_;(repeat' ((first|refine oB ?_|fail)<;>refine sF ?_<;>try with_reducible exact tT))<;>try clear hf
  exact hk
 rw[if_pos he]at hK
 have e1:decide (setsE l m=0)=true:=decide_eq_true he
 by_cases hl:P.length=l.length
 case neg=>
  rw[if_neg hl]at hK
  have hk:=hK.err m1
  have e2:decide ((P.length:Int)=(l.length:Int))=false:=decide_eq_false (by omega)
  refine Stop.go ?_
  (try with_reducible refine Fz.of ?_);have hf:=A9 o1 o2 o3 n1 n2 s1 s2 e1 e2;refine sF ?_;(repeat' ((first|refine oB ?_|fail)<;>refine sF ?_<;>try with_reducible exact tT))<;>try clear hf
  exact hk
 rw[if_pos hl]at hK
 have e2:decide ((P.length:Int)=(l.length:Int))=true:=decide_eq_true (by omega)
 refine Stop.go ?_
 (try with_reducible refine Fz.of ?_);have hf:=A9 o1 o2 o3 n1 n2 s1 s2 e1 e2;refine sF ?_;(repeat' ((first|((with_reducible refine yN ?_);refine kS 44 (pncont_ok (h2.le m1) (h3.le m1) b2 (fun M2 m2=>Stop.mk ?_)))|refine oB ?_|fail)<;>refine sF ?_<;>try with_reducible exact tT))<;>try clear hf
 have m2:Mem.le M1 M2:=m2
 cases hp:P.all (fun x=>innF x.l1 x.l2) with
 | false=>
  rw[hp,if_neg (by decide)]at hK
  have hk:=hK.err (m1.trans m2)
  refine Stop.go ?_
  (try with_reducible refine Fz.of ?_);have hf:=A4 o1 o2 o3 hp;refine sF ?_;(repeat' ((first|refine oB ?_|fail)<;>refine sF ?_<;>try with_reducible exact tT))<;>try clear hf
  exact hk
 | true=>
 rw[hp,if_pos rfl]at hK
 have hlen:l.length≤8:=by
  unfold setsE at he
  split at he
  ·rename_i h;exact (chk_len h).2
  ·cases he
 have hpr:=hpr hp (by omega)
 have hbd:∀s∈setsL l m,s<256:=fun s hs=>by
  unfold setsL at hs
  rw[if_pos he]at hs
  unfold hyps hypTo at hs
  have:=List.mem_range.1 (List.mem_filter.1 hs).1
  have h2:2^l.length≤2^8:=Nat.pow_le_pow_right (by decide) hlen
  omega
 have hsl:=hI_len l m
 unfold hI at hsl
 rw[List.length_map]at hsl
 generalize setsL l m=S at *
 have t1:=Int.toNat_natCast S.length
 have t2:=frC_rep S.length
 refine Stop.go ?_
 (try with_reducible refine Fz.of ?_);have hf:=A12 o1 o2 o3 n1 n2 n3 s1 s2 s3 hp t1 (A4 t2 @frC_ment @frC_kill @hasK_nil);refine sF ?_;(repeat' ((first|refine oB ?_|fail)<;>refine sF ?_<;>try with_reducible exact tT))<;>try clear hf
 refine ⟨fun z=>∃M' D,D.length=S.length∧Mem.le M2 M'∧okFL M' D∧D.map prV=(S.map (newW P)).map (fun q=>(ofN q.1,ofN q.2))∧z=nwSt M' ur up us S.length S.length D,?_,?_⟩
 ·(try with_reducible refine Fz.of ?_);have hf:=A12 o1 o2 o3 n1 n2 n3 s1 s2 s3 @frC_ment @frC_kill @hasK_nil;refine sF ?_;(repeat' ((first|refine oB ?_|fail)<;>refine sF ?_<;>try with_reducible exact tT))<;>try clear hf
  refine ⟨fun m z=>∃M' D k,m=S.length-k∧k≤S.length∧Mem.le M2 M'∧D.length=k∧okFL M' D∧D.map prV=((S.take k).map (newW P)).map (fun q=>(ofN q.1,ofN q.2))∧z=nwSt M' ur up us S.length k D,
   ⟨S.length,nwSt M2 ur up us S.length 0 [],le_sub ⟨rfl,rfl,rfl,rfl,rfl,rfl,rfl,rfl,trivial⟩ ⟨rfl,rfl,rfl,trivial⟩ rfl rfl rfl (keepLt0 _),⟨M2,[],0,by omega,by omega,Mem.le.refl _,rfl,(fun x hx=>by cases hx),rfl,rfl⟩⟩,?_⟩
  have a1:=a1.le m2
  rintro m' z ⟨M3,D,k,rfl,hk,hM,hD,hDo,hDv,rfl⟩
  by_cases hlt:k<S.length
  case neg=>
   obtain rfl:k=S.length:=by omega
   have d1:decide ((S.length:Int)<(S.length:Int))=false:=by simp
   rw[List.take_length]at hDv
   (try with_reducible refine Fz.of ?_);have hf:=A8 @nwSt.eq_1 d1 o1 o2 o3 @frC_ment @frC_kill @hasK_nil;refine sF ?_;(repeat' ((first|refine oB ?_|fail)<;>refine sF ?_<;>try with_reducible exact tT))<;>try clear hf
   exact ⟨nwSt M3 ur up us S.length S.length D,le_sub ⟨rfl,rfl,rfl,rfl,rfl,rfl,rfl,rfl,trivial⟩ ⟨rfl,rfl,rfl,trivial⟩ rfl rfl rfl (keepLt0 _),M3,D,hD,hM,hDo,hDv,rfl⟩
  have d1:decide ((k:Int)<(S.length:Int))=true:=by rw[decide_eq_true_eq];omega
  have q1:(0:Int)≤(k:Int):=by omega
  have q2:(k:Int)<(S.length:Int):=by omega
  have a3:=a1.le hM
  have f1:=a3.idx (P:=Tryz.prog) (T:=3) tk3 tz3 (by omega) hlt
  have hs:=hbd _ (List.getElem_mem hlt)
  have htk:S.take (k+1)=S.take k++[S[k]]:=by rw[List.take_add_one,List.getElem?_eq_getElem hlt];rfl
  have wk:IntKind.i64.wrap ((k:Int)+1)=((k+1:Nat):Int):=succ_i (by omega)
  have hlen:=frC_len (D++List.replicate (S.length-k) zFR)
  rw[List.length_append,hD,List.length_replicate,show k+(S.length-k)=S.length by omega]at hlen
  have hin:k*2+2≤S.length*2:=by omega
  generalize S[k]=s at *
  (try with_reducible refine Fz.of ?_);have hf:=A12 @nwSt.eq_1 @natV.eq_1 d1 q1 q2 f1 o1 o2 o3 n2 s2 (A3 @frC_ment @frC_kill @hasK_nil);refine sF ?_;(repeat' ((first|refine oB ?_|fail)<;>refine sF ?_<;>try with_reducible exact tT))<;>try clear hf
  refine ⟨fun m z=>∃M' E j,m=P.length-j∧j≤P.length∧Mem.le M3 M'∧E.length=j∧okFL M' E∧E.map prV=(facG s 0 P).take j∧z=nwSt2 M' ur up us S.length k s P.length j D E,
   ⟨P.length,nwSt2 M3 ur up us S.length k s P.length 0 D [],(le_nil 13 13 27 2 rfl (.inl (by simp[awayB,mentE,mentH,mentL,AV.ment,hasK,frC_ment]))).trans (le_sub ⟨rfl,rfl,rfl,rfl,rfl,rfl,rfl,rfl,rfl,rfl,rfl,rfl,rfl,rfl,trivial⟩ ⟨rfl,rfl,rfl,rfl,trivial⟩ rfl rfl rfl (keepLt0 _)),⟨M3,[],0,by omega,by omega,Mem.le.refl _,rfl,(fun x hx=>by cases hx),rfl,rfl⟩⟩,?_⟩
  rintro m'' z ⟨M4,E,j,rfl,hj,hM4,hE,hEo,hEv,rfl⟩
  by_cases hjt:j<P.length
  case neg=>
   obtain rfl:j=P.length:=by omega
   have g1:decide ((P.length:Int)<(P.length:Int))=false:=by simp
   rw[List.take_of_length_le (by rw[facG_len];omega)]at hEv
   have hv:prodG 1 1 E=(0,(newW P s).1,(newW P s).2):=by rw[prodG_V,hEv,prodV_I _ _ _ (hpr s)];rfl
   (try with_reducible refine Fz.of ?_);have hf:=A10 @nwSt2.eq_1 g1 q1 q2 o1 o2 o3 @frC_ment @frC_kill @hasK_nil;refine sF ?_;(repeat' ((first|((with_reducible first|refine yA ?_|refine yC ?_);first|refine kH 48 ?_|refine kS 48 (product_bor 13 P.length _ (by omega) hEo (by omega) hv (fun w1 w2 M5 c1 c2=>Stop.mk ?_)))|refine oB ?_|fail)<;>refine sF ?_<;>try with_reducible exact tT))<;>try clear hf
   have c1:Mem.le M4 M5:=c1
   have p5:=c2.n.one
   have p6:=c2.d.one
   have hst:=frC_setF (L:=D++List.replicate (S.length-k) zFR) (i:=k) (by rw[List.length_append,hD,List.length_replicate];omega) ⟨w1,w2,ofN (newW P s).1,ofN (newW P s).2⟩
   rw[set_fill D _ _ hD hlt]at hst
   refine Stop.go ?_
   (try with_reducible refine Fz.of ?_);have hf:=A12 p5 p6 wk q1 q2 hlen hin hst o1 o2 o3 (A4 @frC_ment @frC_kill @hasK_nil @Nat.zero_add);refine sF ?_;(repeat' ((first|refine oB ?_|fail)<;>refine sF ?_<;>try with_reducible exact tT))<;>try clear hf
   exact ⟨S.length-(k+1),nwSt M5 ur up us S.length (k+1) (D++[⟨w1,w2,ofN (newW P s).1,ofN (newW P s).2⟩]),by omega,le_sub ⟨rfl,rfl,rfl,rfl,rfl,rfl,rfl,rfl,trivial⟩ ⟨rfl,rfl,rfl,trivial⟩ rfl rfl rfl (keepLt0 _),M5,_,k+1,rfl,by omega,hM.trans (hM4.trans c1),by rw[List.length_append,hD];rfl,(fun x hx=>by
    rcases List.mem_append.1 hx with hx|hx
    ·exact ((hDo x hx).le hM4).le c1
    ·rw[List.mem_singleton.1 hx];exact c2),by rw[List.map_append,hDv,htk,List.map_append,List.map_append];rfl,rfl⟩
  have g1:decide ((j:Int)<(P.length:Int))=true:=by rw[decide_eq_true_eq];omega
  have q3:(0:Int)≤(j:Int):=by omega
  have q4:(j:Int)<(P.length:Int):=by omega
  have hu2:=(((h2.le m1).le m2).le hM).le hM4
  have hnn:=hu2.nn hjt
  have hat:=hu2.at (P:=Tryz.prog) (T:=27) (fun _=>rfl) tk27 tz27 hjt
  have hF:=(((h3.le m1).le m2).le hM).le hM4 _ (List.getElem_mem hjt)
  have wj:IntKind.i64.wrap ((j:Int)+1)=((j+1:Nat):Int):=succ_i (by omega)
  have htj:=facG_take s P 0 j hjt
  have hlE:(frC E).length=j*2:=by rw[frC_len,hE]
  rw[Nat.zero_add]at htj
  have sh:=shr_nat s j (by omega)
  have ib:=in_bit0 s j (by omega)
  generalize P[j]=x at *
  obtain ⟨x1,x2,y1,y2⟩:=x
  have hat:lookM Tryz.prog 27 M4 (elemP up 2 j)=some (.agg #[x1,x2]):=hat
  have hF:IsF M4 x1 x2 y1 y2:=hF
  have p3:=hF.n.one
  have p4:=hF.d.one
  unfold facE at htj
  cases hb:s.testBit j with
  | true=>
   rw[hb]at htj ib
   have ap:frC E++[.ext x1,.ext x2]=frC (E++[⟨x1,x2,y1,y2⟩]):=by simp[frC,FR.c]
   (try with_reducible refine Fz.of ?_);have hf:=A12 @nwSt2.eq_1 g1 q3 q4 sh ib hnn hat p3 p4 ap (A10 hlE wj o1 o2 o3 n2 s2 @frC_ment @frC_kill @hasK_nil);refine sF ?_;(repeat' ((first|refine oB ?_|fail)<;>refine sF ?_<;>try with_reducible exact tT))<;>try clear hf
   exact ⟨P.length-(j+1),nwSt2 M4 ur up us S.length k s P.length (j+1) D (E++[⟨x1,x2,y1,y2⟩]),by omega,le_sub ⟨rfl,rfl,rfl,rfl,rfl,rfl,rfl,rfl,rfl,rfl,rfl,rfl,rfl,rfl,trivial⟩ ⟨rfl,rfl,rfl,rfl,trivial⟩ rfl rfl rfl (keepLt0 _),M4,_,j+1,rfl,by omega,hM4,by rw[List.length_append,hE];rfl,(fun x hx=>by
    rcases List.mem_append.1 hx with hx|hx
    ·exact hEo x hx
    ·rw[List.mem_singleton.1 hx];exact hF),by rw[List.map_append,hEv,htj];rfl,rfl⟩
  | false=>
   rw[hb]at htj ib
   (try with_reducible refine Fz.of ?_);have hf:=A12 @nwSt2.eq_1 g1 q3 q4 sh ib hnn hat p3 p4 hlE (A9 wj o1 o2 o3 n2 s2 @frC_ment @frC_kill @hasK_nil);refine sF ?_;(repeat' ((first|((with_reducible refine yN ?_);refine kS 47 (other_ok hF (fun w1 w2 M5 c1 c2 _ _=>Stop.mk ?_)))|refine oB ?_|fail)<;>refine sF ?_<;>try with_reducible exact tT))<;>try clear hf
   have c1:Mem.le M4 M5:=c1
   have p5:=c2.n.one
   have p6:=c2.d.one
   have ap:frC E++[.ext w1,.ext w2]=frC (E++[⟨w1,w2,ofN (othF y1 y2).1,ofN (othF y1 y2).2⟩]):=by simp[frC,FR.c]
   refine Stop.go ?_
   (try with_reducible refine Fz.of ?_);have hf:=A12 p5 p6 ap hlE wj o1 o2 o3 n2 s2 @frC_ment (A2 @frC_kill @hasK_nil);refine sF ?_;(repeat' ((first|refine oB ?_|fail)<;>refine sF ?_<;>try with_reducible exact tT))<;>try clear hf
   exact ⟨P.length-(j+1),nwSt2 M5 ur up us S.length k s P.length (j+1) D (E++[⟨w1,w2,ofN (othF y1 y2).1,ofN (othF y1 y2).2⟩]),by omega,le_sub ⟨rfl,rfl,rfl,rfl,rfl,rfl,rfl,rfl,rfl,rfl,rfl,rfl,rfl,rfl,trivial⟩ ⟨rfl,rfl,rfl,rfl,trivial⟩ rfl rfl rfl (keepLt0 _),M5,_,j+1,rfl,by omega,hM4.trans c1,by rw[List.length_append,hE];rfl,(fun x hx=>by
    rcases List.mem_append.1 hx with hx|hx
    ·exact (hEo x hx).le c1
    ·rw[List.mem_singleton.1 hx];exact c2),by rw[List.map_append,hEv,htj];rfl,rfl⟩
 ·rintro z ⟨M3,D,hD,hM2,hDo,hDv,rfl⟩
  have hM:=(m1.trans m2).trans hM2
  refine Fz.flat (k:=41) (n:=S.length) (w:=2) (T:=27) 10 (D.flatMap FR.c) [(8,.ext us),(6,.own 6 0),(3,.own 3 0)] [(6,40,[.ext (.slice none 0 0),.ext (.slice none 0 0),.ext (.slice none 0 0)]),(3,33,[.ext ur])] rfl (by
   show some (_,frC (D++List.replicate (S.length-S.length) zFR))=_
   rw[Nat.sub_self,List.replicate_zero,List.append_nil];rfl) (by rw[flat_len (z:=2) (f:=FR.c) (fun _=>rfl),hD]) (Nat.zero_le _) ⟨rfl,rfl,rfl,trivial⟩ rfl ⟨rfl,rfl,trivial⟩ rfl (keepLt0 _) (fun j hj _=>absurd hj (Nat.not_lt_zero _)) (fun M4 w hM4 hw _=>?_)
  have hu:IsR M4 2 FR.c w D:=by unfold IsR;rw[hD];exact hw
  have p1:=hu.one
  have hn:=normF_Q hDv
  rw[←hn]at hK
  (try with_reducible refine Fz.of ?_);have hf:=A3 p1 o1 o3;refine sF ?_;(repeat' ((first|((with_reducible refine yN ?_);refine kS 49 (normalF_ok hu (hDo.le hM4) (by omega) (fun U M5 c1 c2=>Stop.mk ?_)))|refine oB ?_|fail)<;>refine sF ?_<;>try with_reducible exact tT))<;>try clear hf
  have c1:Mem.le M4 M5:=c1
  have hM4:Mem.le M3 M4:=hM4
  have p2:U.oneCell'=true:=by obtain ⟨_,h,_⟩:=c2;exact h.one
  have m5:Mem.le M M5:=hM.trans (hM4.trans c1)
  unfold okB at hK
  by_cases h0:(normF D).1=0
  case neg=>
   rw[if_neg h0]at hK
   have hk:=hK.err m5
   have d0:decide ((normF D).1=0)=false:=decide_eq_false h0
   refine Stop.go ?_
   (try with_reducible refine Fz.of ?_);have hf:=A5 p1 p2 o1 o3 d0;refine sF ?_;(repeat' ((first|refine oB ?_|fail)<;>refine sF ?_<;>try with_reducible exact tT))<;>try clear hf
   exact hk
  rw[if_pos h0]at hK
  have d0:decide ((normF D).1=0)=true:=decide_eq_true h0
  refine Stop.go ?_
  (try with_reducible refine Fz.of ?_);have hf:=A5 p1 p2 o1 o3 d0;refine sF ?_;(repeat' ((first|((with_reducible refine yN ?_);refine kS 50 (cloneI_ok ur l (h1.le m5) (by omega) (fun v M6 g1 g2 g3=>Stop.mk ?_)))|refine oB ?_|fail)<;>refine sF ?_<;>try with_reducible exact tT))<;>try clear hf
  have g1:Mem.le M5 M6:=g1
  have p3:=g2.one
  have a6:=(((a1.le m2).le hM2).le (hM4.trans c1)).le g1
  have hk:=hK v us U M6 (m5.trans g1) g2 a6 ((c2.base (hM.trans hM4)).le g1) (g3.le m5) afr
  refine Stop.go ?_
  (try with_reducible refine Fz.of ?_);have hf:=A6 p1 p2 p3 o1 o3 d0;refine sF ?_;(repeat' ((first|refine oB ?_|fail)<;>refine sF ?_<;>try with_reducible exact tT))<;>try clear hf
  exact hk
theorem pnew_ok(m:Int)(h1:IsL M intV64 ur l)(h2:IsR M 2 FR.c up P)(h3:okFL M P)(b1:l.length<1000000)(b2:P.length<1000000)
  (hpr:P.all (fun x=>innF x.l1 x.l2)=true→P.length≤8→∀s,(prodV 1 1 (facG s 0 P)).1=0) (hK:BelK M K (newB l P m)):CallS Tryz.prog 15 [.ext (.agg #[ur]),.ext up,.ext (.int .i64 m)] [] M [] K:=
 pnewF_ok m h1 h2 h3 b1 b2 hpr fun a b c M' g1 g2 g3 g4 _ _=>hK a b c M' g1 g2 g3 g4.fq
theorem pnew_bor(k n:Nat)(T:TypeId)(m:Int)(hn:n=P.length)(h1:IsL M intV64 ur l)(h3:okFL M P)(b1:l.length<1000000)(b2:P.length<1000000)
  (hpr:P.all (fun x=>innF x.l1 x.l2)=true→P.length≤8→∀s,(prodV 1 1 (facG s 0 P)).1=0)
  (hK:∀wr ws ww M',Mem.le M M'→IsL M' intV64 wr (newB l P m).l→IsL M' natV ws (newB l P m).s→FQ M' ww (newB l P m).q→K (.ext (.tuple #[.agg #[wr,ws,ww],.int .i64 (newB l P m).e])) [(k,T,frC P)] M') :
  CallS Tryz.prog 15 [.ext (.agg #[ur]),.slo k 0 n 2,.ext (.int .i64 m)] [(k,T,frC P)] M [] K:=by
 refine CallS.bor ⟨⟨_,rfl⟩,trivial⟩ fun us M' hM hb'=>?_
 obtain ⟨_,_,rfl,rfl,v1,_,rfl,hv,_,_,rfl,rfl,rfl⟩:=hb'
 have g1:=hv.isR (L:=P) (T:=T) (by simp[lkH]) hn
 refine pnewF_ok m (h1.le hM) g1 (h3.le hM) b1 b2 hpr fun a b c M2 c1 c2 c3 c4 c5 c6=>?_
 exact ⟨fun j hj=>rfl,fun M3 h5 h6 _=>hK a b c M3 h5 (c2.move c5 h6) (c3.move c6 h6) (c4.move h6)⟩
end
theorem facG_drop(s:Nat):∀(L:List FR) (j i:Nat) (h:i<L.length),(facG s j L).drop i=facE s (j+i) L[i] :: (facG s j L).drop (i+1)
 | x :: r,j,0,_=>by simp[facG]
 | x :: r,j,i+1,h=>by
  rw[facG,List.drop_succ_cons,List.drop_succ_cons,facG_drop s r (j+1) i (by simpa using h),List.getElem_cons_succ,show j+1+i=j+(i+1) by omega]
section
variable {M:Mem}{K:AV→Hp→Mem→Prop}{ur up:Value}{l:List Int}{P:List FR}
def rnSt0(M:Mem)(ur up us:Value)(i:Nat):St:={env:=[(10,.ext (.int .i64 (i:Int))),(8,.ext us),(6,.own 6 0),(3,.own 3 0),(1,.ext up)],hp:=[(6,40,[.ext (.slice none 0 0),.ext (.slice none 0 0),.ext (.slice none 0 0)]),(3,33,[.ext ur])],M:=M,kb:=0,fx:=[]}
def rnSt(M:Mem)(ur up us:Value)(k:Nat)(D:List FR):St:={env:=[(12,.ext (.int .i64 (k:Int))),(11,.slo 11 0 k 2),(8,.ext us),(6,.own 6 0),(3,.own 3 0),(1,.ext up)],hp:=[(11,27,frC D),(6,40,[.ext (.slice none 0 0),.ext (.slice none 0 0),.ext (.slice none 0 0)]),(3,33,[.ext ur])],M:=M,kb:=0,fx:=[]}
def rnSt2(M:Mem)(ur up us w1 w2:Value)(k j:Nat)(D:List FR):St:={env:=[(14,.ext (.int .i64 (j:Int))),(13,.own 13 0),(12,.ext (.int .i64 (k:Int))),(11,.slo 11 0 k 2),(8,.ext us),(6,.own 6 0),(3,.own 3 0),(1,.ext up)],hp:=[(13,27,[.ext w1,.ext w2]),(11,27,frC D),(6,40,[.ext (.slice none 0 0),.ext (.slice none 0 0),.ext (.slice none 0 0)]),(3,33,[.ext ur])],M:=M,kb:=0,fx:=[]}
theorem rnew_ok(m:Int)(h1:IsL M intV64 ur l)(h2:IsR M 2 FR.c up P)(h3:okFL M P)(b1:l.length<1000000)(b2:P.length<1000000)
  (hK:BelK M K (newB l P m)):CallS Tryz.prog 16 [.ext (.agg #[ur]),.ext up,.ext (.int .i64 m)] [] M [] K:=by
 refine inlS (cs:=[24]) Tryz.mixed Tryz.func16 rfl (by kernel_rfl) 0 rfl rfl ?_
 simp only[Tryz.f16]
 have o1:=h1.one
 have n1:=h1.len
 have s1:=h1.sl
 have o2:=h2.one
 have n2:=h2.len
 have s2:=h2.sl
 unfold newB at hK
 (try with_reducible refine Fz.of ?_);have hf:=A6 o1 o2 n1 n2 s1 s2;refine sF ?_;(repeat' ((first|((with_reducible refine yN ?_);refine kS 51 (SetsR_ok ur l m h1 (by omega) (fun us M1 m1 a1 _=>Stop.mk ?_)))|refine oB ?_|fail)<;>refine sF ?_<;>try with_reducible exact tT))<;>try clear hf
 have m1:Mem.le M M1:=m1
 have o3:=a1.one
 have n3:=a1.len
 have s3:=a1.sl
 by_cases he:setsE l m=0
 case neg=>
  rw[if_neg he]at hK
  have hk:=hK.err m1
  have e1:decide (setsE l m=0)=false:=decide_eq_false he
  refine Stop.go ?_
  (try with_reducible refine Fz.of ?_);have hf:=A4 o1 o2 o3 e1;refine sF ?_;(repeat' ((first|refine oB ?_|fail)<;>refine sF ?_<;>try with_reducible exact tT))<;>try clear hf
  exact hk
 rw[if_pos he]at hK
 have e1:decide (setsE l m=0)=true:=decide_eq_true he
 by_cases hl:P.length=l.length
 case neg=>
  rw[if_neg hl]at hK
  have hk:=hK.err m1
  have e2:decide ((P.length:Int)=(l.length:Int))=false:=decide_eq_false (by omega)
  refine Stop.go ?_
  (try with_reducible refine Fz.of ?_);have hf:=A9 o1 o2 o3 n1 n2 s1 s2 e1 e2;refine sF ?_;(repeat' ((first|refine oB ?_|fail)<;>refine sF ?_<;>try with_reducible exact tT))<;>try clear hf
  exact hk
 rw[if_pos hl]at hK
 have e2:decide ((P.length:Int)=(l.length:Int))=true:=decide_eq_true (by omega)
 have hlen:l.length≤8:=by
  unfold setsE at he
  split at he
  ·rename_i h;exact (chk_len h).2
  ·cases he
 have hbd:∀s∈setsL l m,s<256:=fun s hs=>by
  unfold setsL at hs
  rw[if_pos he]at hs
  unfold hyps hypTo at hs
  have:=List.mem_range.1 (List.mem_filter.1 hs).1
  have h2:2^l.length≤2^8:=Nat.pow_le_pow_right (by decide) hlen
  omega
 have hsl:=hI_len l m
 unfold hI at hsl
 rw[List.length_map]at hsl
 generalize setsL l m=S at *
 refine Stop.go ?_
 (try with_reducible refine Fz.of ?_);have hf:=A9 o1 o2 o3 n1 n2 s1 s2 e1 e2;refine sF ?_;(repeat' ((first|refine oB ?_|fail)<;>refine sF ?_<;>try with_reducible exact tT))<;>try clear hf
 refine ⟨fun m z=>∃M' i,m=P.length-i∧i≤P.length∧Mem.le M1 M'∧(∀x∈P.take i,innF x.l1 x.l2=true)∧z=rnSt0 M' ur up us i,
  ⟨P.length,rnSt0 M1 ur up us 0,le_sub ⟨rfl,rfl,rfl,rfl,rfl,trivial⟩ ⟨rfl,rfl,trivial⟩ rfl rfl rfl (keepLt0 _),⟨M1,0,by omega,by omega,Mem.le.refl _,(fun x hx=>by rw[List.take_zero]at hx;cases hx),rfl⟩⟩,?_⟩
 rintro m' z ⟨M2,i,rfl,hi,m2,hp,rfl⟩
 by_cases hlt:i<P.length
 case pos=>
  have d1:decide ((i:Int)<(P.length:Int))=true:=by rw[decide_eq_true_eq];omega
  have q3:(0:Int)≤(i:Int):=by omega
  have q4:(i:Int)<(P.length:Int):=by omega
  have hu2:=(h2.le m1).le m2
  have hnn:=hu2.nn hlt
  have hat:=hu2.at (P:=Tryz.prog) (T:=27) (fun _=>rfl) tk27 tz27 hlt
  have hmem:=List.getElem_mem hlt
  have hF:=(h3.le m1).le m2 _ hmem
  have wi:IntKind.i64.wrap ((i:Int)+1)=((i+1:Nat):Int):=succ_i (by omega)
  have hnx:innF P[i].l1 P[i].l2=true→∀x∈P.take (i+1),innF x.l1 x.l2=true:=fun hx x hm=>by
   rw[List.take_add_one,List.getElem?_eq_getElem hlt]at hm
   rcases List.mem_append.1 hm with h1|h1
   ·exact hp x h1
   ·have:x=P[i]:=by simpa using h1
    rw[this];exact hx
  have hno:innF P[i].l1 P[i].l2=false→P.all (fun x=>innF x.l1 x.l2)=false:=fun h=>by
   cases h2:P.all (fun x=>innF x.l1 x.l2) with
   | false=>rfl
   | true=>have hq:innF P[i].l1 P[i].l2=true:=List.all_eq_true.1 h2 _ hmem;rw[hq]at h;cases h
  generalize P[i]=x at *
  obtain ⟨x1,x2,y1,y2⟩:=x
  have hat:lookM Tryz.prog 27 M2 (elemP up 2 i)=some (.agg #[x1,x2]):=hat
  have hF:IsF M2 x1 x2 y1 y2:=hF
  have p3:=hF.n.one
  have p4:=hF.d.one
  simp only at hnx hno
  (try with_reducible refine Fz.of ?_);have hf:=A12 @rnSt0.eq_1 d1 q3 q4 hnn hat p3 p4 o1 o2 o3 (A2 n2 s2);refine sF ?_;(repeat' ((first|((with_reducible refine yN ?_);refine kS 52 (rinner_ok hF (fun M3 m3=>Stop.mk ?_)))|refine oB ?_|fail)<;>refine sF ?_<;>try with_reducible exact tT))<;>try clear hf
  have m3:Mem.le M2 M3:=m3
  cases hc:innF y1 y2 with
  | false=>
   rw[hno hc,if_neg (by decide)]at hK
   have hk:=hK.err (m1.trans (m2.trans m3))
   refine Stop.go ?_
   (try with_reducible refine Fz.of ?_);have hf:=A4 o1 o2 o3 hc;refine sF ?_;(repeat' ((first|refine oB ?_|fail)<;>refine sF ?_<;>try with_reducible exact tT))<;>try clear hf
   exact hk
  | true=>
   refine Stop.go ?_
   (try with_reducible refine Fz.of ?_);have hf:=A5 o1 o2 o3 hc wi;refine sF ?_;(repeat' ((first|refine oB ?_|fail)<;>refine sF ?_<;>try with_reducible exact tT))<;>try clear hf
   exact ⟨P.length-(i+1),rnSt0 M3 ur up us (i+1),by omega,le_sub ⟨rfl,rfl,rfl,rfl,rfl,trivial⟩ ⟨rfl,rfl,trivial⟩ rfl rfl rfl (keepLt0 _),M3,i+1,rfl,by omega,m2.trans m3,hnx hc,rfl⟩
 obtain rfl:i=P.length:=by omega
 have hp:P.all (fun x=>innF x.l1 x.l2)=true:=List.all_eq_true.2 (by rw[List.take_length]at hp;exact hp)
 rw[hp,if_pos rfl]at hK
 have d1:decide ((P.length:Int)<(P.length:Int))=false:=by simp
 (try with_reducible refine Fz.of ?_);have hf:=A7 @rnSt0.eq_1 d1 o1 o2 o3 n2 s2;refine sF ?_;(repeat' ((first|refine oB ?_|fail)<;>refine sF ?_<;>try with_reducible exact tT))<;>try clear hf
 clear d1
 refine ⟨fun z=>∃M' D,D.length=S.length∧Mem.le M2 M'∧okFL M' D∧D.map prV=(S.map (newW P)).map (fun q=>(ofN q.1,ofN q.2))∧z=rnSt M' ur up us S.length D,?_,?_⟩
 ·(try with_reducible refine Fz.of ?_);have hf:=A9 o1 o2 o3 n1 n2 n3 s1 s2 s3;refine sF ?_;(repeat' ((first|refine oB ?_|fail)<;>refine sF ?_<;>try with_reducible exact tT))<;>try clear hf
  refine ⟨fun m z=>∃M' D k,m=S.length-k∧k≤S.length∧Mem.le M2 M'∧D.length=k∧okFL M' D∧D.map prV=((S.take k).map (newW P)).map (fun q=>(ofN q.1,ofN q.2))∧z=rnSt M' ur up us k D,
   ⟨S.length,rnSt M2 ur up us 0 [],(le_nil 11 11 27 2 rfl (.inl (by simp[awayB,mentE,mentH,mentL,AV.ment,hasK,frC_ment]))).trans (le_sub ⟨rfl,rfl,rfl,rfl,rfl,rfl,trivial⟩ ⟨rfl,rfl,rfl,trivial⟩ rfl rfl rfl (keepLt0 _)),⟨M2,[],0,by omega,by omega,Mem.le.refl _,rfl,(fun x hx=>by cases hx),rfl,rfl⟩⟩,?_⟩
  have a1:=a1.le m2
  rintro m' z ⟨M3,D,k,rfl,hk,hM,hD,hDo,hDv,rfl⟩
  by_cases hlt:k<S.length
  case neg=>
   obtain rfl:k=S.length:=by omega
   have d1:decide ((S.length:Int)<(S.length:Int))=false:=by simp
   rw[List.take_length]at hDv
   (try with_reducible refine Fz.of ?_);have hf:=A10 @rnSt.eq_1 d1 o1 o2 o3 n3 s3 @frC_ment @frC_kill @hasK_nil;refine sF ?_;(repeat' ((first|refine oB ?_|fail)<;>refine sF ?_<;>try with_reducible exact tT))<;>try clear hf
   exact ⟨rnSt M3 ur up us S.length D,le_sub ⟨rfl,rfl,rfl,rfl,rfl,rfl,trivial⟩ ⟨rfl,rfl,rfl,trivial⟩ rfl rfl rfl (keepLt0 _),M3,D,hD,hM,hDo,hDv,rfl⟩
  have d1:decide ((k:Int)<(S.length:Int))=true:=by rw[decide_eq_true_eq];omega
  have q1:(0:Int)≤(k:Int):=by omega
  have q2:(k:Int)<(S.length:Int):=by omega
  have a3:=a1.le hM
  have hs:=hbd _ (List.getElem_mem hlt)
  have htk:S.take (k+1)=S.take k++[S[k]]:=by rw[List.take_add_one,List.getElem?_eq_getElem hlt];rfl
  have wk:IntKind.i64.wrap ((k:Int)+1)=((k+1:Nat):Int):=succ_i (by omega)
  have hlen:=frC_len D
  rw[hD]at hlen
  have hix:∀M',Mem.le M3 M'→_:=fun M' h=>(a3.le h).idx (P:=Tryz.prog) (T:=3) tk3 tz3 (by omega) hlt
  generalize S[k]=s at *
  (try with_reducible refine Fz.of ?_);have hf:=A10 @rnSt.eq_1 d1 o1 o2 o3 n3 s3 @frC_ment @frC_kill @hasK_nil;refine sF ?_;(repeat' ((first|((with_reducible refine yN ?_);refine kS 53 (rone_ok (fun w1 w2 M4 m4 a4 _ _=>Stop.mk ?_)))|refine oB ?_|fail)<;>refine sF ?_<;>try with_reducible exact tT))<;>try clear hf
  have m4:Mem.le M3 M4:=m4
  have p1:=a4.n.one
  have p2:=a4.d.one
  refine Stop.go ?_
  (try with_reducible refine Fz.of ?_);have hf:=A8 p1 p2 o1 o2 o3 @frC_ment @frC_kill @hasK_nil;refine sF ?_;(repeat' ((first|refine oB ?_|fail)<;>refine sF ?_<;>try with_reducible exact tT))<;>try clear hf
  refine ⟨fun m z=>∃M' w1 w2 n d j,m=P.length-j∧j≤P.length∧Mem.le M3 M'∧IsF M' w1 w2 (ofN n) (ofN d)∧prodI n d ((facG s 0 P).drop j)=newW P s∧z=rnSt2 M' ur up us w1 w2 k j D,
   ⟨P.length,rnSt2 M4 ur up us w1 w2 k 0 D,le_sub ⟨rfl,rfl,rfl,rfl,rfl,rfl,rfl,rfl,trivial⟩ ⟨rfl,rfl,rfl,rfl,trivial⟩ rfl rfl rfl (keepLt0 _),⟨M4,w1,w2,1,1,0,by omega,by omega,m4,a4,rfl,rfl⟩⟩,?_⟩
  clear p1 p2 a4 m4
  rintro m'' z ⟨M4,w1,w2,n,d,j,rfl,hj,hM4,hw,hv,rfl⟩
  have p1:=hw.n.one
  have p2:=hw.d.one
  by_cases hjt:j<P.length
  case neg=>
   obtain rfl:j=P.length:=by omega
   have g1:decide ((P.length:Int)<(P.length:Int))=false:=by simp
   rw[List.drop_of_length_le (by rw[facG_len];omega),prodI]at hv
   have ap:frC D++[.ext w1,.ext w2]=frC (D++[⟨w1,w2,ofN n,ofN d⟩]):=by simp[frC,FR.c]
   (try with_reducible refine Fz.of ?_);have hf:=A12 @rnSt2.eq_1 g1 p1 p2 ap hlen wk o1 o2 o3 n2 (A4 s2 @frC_ment @frC_kill @hasK_nil);refine sF ?_;(repeat' ((first|refine oB ?_|fail)<;>refine sF ?_<;>try with_reducible exact tT))<;>try clear hf
   exact ⟨S.length-(k+1),rnSt M4 ur up us (k+1) (D++[⟨w1,w2,ofN n,ofN d⟩]),by omega,le_sub ⟨rfl,rfl,rfl,rfl,rfl,rfl,trivial⟩ ⟨rfl,rfl,rfl,trivial⟩ rfl rfl rfl (keepLt0 _),M4,_,k+1,rfl,by omega,hM.trans hM4,by rw[List.length_append,hD];rfl,(fun x hx=>by
    rcases List.mem_append.1 hx with hx|hx
    ·exact (hDo x hx).le hM4
    ·rw[List.mem_singleton.1 hx];exact hw),by rw[List.map_append,hDv,htk,List.map_append,List.map_append,List.map_cons,List.map_cons,←hv];rfl,rfl⟩
  have g1:decide ((j:Int)<(P.length:Int))=true:=by rw[decide_eq_true_eq];omega
  have q3:(0:Int)≤(j:Int):=by omega
  have q4:(j:Int)<(P.length:Int):=by omega
  have hu2:=(((h2.le m1).le m2).le hM).le hM4
  have hnn:=hu2.nn hjt
  have hat:=hu2.at (P:=Tryz.prog) (T:=27) (fun _=>rfl) tk27 tz27 hjt
  have hF:=(((h3.le m1).le m2).le hM).le hM4 _ (List.getElem_mem hjt)
  have wj:IntKind.i64.wrap ((j:Int)+1)=((j+1:Nat):Int):=succ_i (by omega)
  have htj:=facG_drop s P 0 j hjt
  rw[Nat.zero_add]at htj
  rw[htj,prodI]at hv
  generalize P[j]=x at *
  obtain ⟨x1,x2,y1,y2⟩:=x
  have hat:lookM Tryz.prog 27 M4 (elemP up 2 j)=some (.agg #[x1,x2]):=hat
  have hF:IsF M4 x1 x2 y1 y2:=hF
  have p3:=hF.n.one
  have p4:=hF.d.one
  unfold facE at hv
  (try with_reducible refine Fz.of ?_);have hf:=A12 @rnSt2.eq_1 g1 q3 q4 hnn hat p1 p2 p3 p4 o1 (A7 o2 o3 n2 s2 @frC_ment @frC_kill @hasK_nil);refine sF ?_;(repeat' ((first|((with_reducible refine yN ?_);refine kS 54 (rRest_ok hF (fun w3 w4 M5 c1 c2 _ _=>Stop.mk ?_)))|refine oB ?_|fail)<;>refine sF ?_<;>try with_reducible exact tT))<;>try clear hf
  have c1:Mem.le M4 M5:=c1
  have p5:=c2.n.one
  have p6:=c2.d.one
  have f1:=hix M5 (hM4.trans c1)
  have hat5:=lookM_le c1 hat
  cases hb:s.testBit j with
  | true=>
   rw[hb]at hv
   refine Stop.go ?_
   (try with_reducible refine Fz.of ?_);have hf:=A12 f1 @natV.eq_1 q1 q2 q3 q4 hnn hat5 hb p1 p2 (A12 p3 p4 p5 p6 o1 o2 o3 n2 s2 @frC_ment @frC_kill @hasK_nil);refine sF ?_;(repeat' ((first|((with_reducible refine yN ?_);first|refine kS 55 (in_ok s j (by omega) (by omega) ?_)|refine kS 56 (rfmul_ok (hw.le c1) (hF.le c1) (fun v1 v2 M6 g1 g2 g3 _ _=>Stop.mk ?_)))|refine oB ?_|fail)<;>refine sF ?_<;>try with_reducible exact tT))<;>try clear hf
   have g1:Mem.le M5 M6:=g1
   have p7:=g2.one
   have p8:=g3.one
   refine Stop.go ?_
   (try with_reducible refine Fz.of ?_);have hf:=A11 p7 p8 wj o1 o2 o3 n2 s2 @frC_ment @frC_kill @hasK_nil;refine sF ?_;(repeat' ((first|refine oB ?_|fail)<;>refine sF ?_<;>try with_reducible exact tT))<;>try clear hf
   exact ⟨P.length-(j+1),rnSt2 M6 ur up us v1 v2 k (j+1) D,by omega,le_sub ⟨rfl,rfl,rfl,rfl,rfl,rfl,rfl,rfl,trivial⟩ ⟨rfl,rfl,rfl,rfl,trivial⟩ rfl rfl rfl (keepLt0 _),M6,v1,v2,_,_,j+1,rfl,by omega,hM4.trans (c1.trans g1),isF_ofN g2 g3 (mulF_len' _ _ _ _),hv,rfl⟩
  | false=>
   rw[hb]at hv
   refine Stop.go ?_
   (try with_reducible refine Fz.of ?_);have hf:=A12 f1 @natV.eq_1 q1 q2 q3 q4 hnn hat5 hb p1 p2 (A12 p3 p4 p5 p6 o1 o2 o3 n2 s2 @frC_ment @frC_kill @hasK_nil);refine sF ?_;(repeat' ((first|((with_reducible refine yN ?_);first|refine kS 55 (in_ok s j (by omega) (by omega) ?_)|refine kS 56 (rfmul_ok (hw.le c1) c2 (fun v1 v2 M6 g1 g2 g3 _ _=>Stop.mk ?_)))|refine oB ?_|fail)<;>refine sF ?_<;>try with_reducible exact tT))<;>try clear hf
   have g1:Mem.le M5 M6:=g1
   have p7:=g2.one
   have p8:=g3.one
   refine Stop.go ?_
   (try with_reducible refine Fz.of ?_);have hf:=A11 p7 p8 wj o1 o2 o3 n2 s2 @frC_ment @frC_kill @hasK_nil;refine sF ?_;(repeat' ((first|refine oB ?_|fail)<;>refine sF ?_<;>try with_reducible exact tT))<;>try clear hf
   exact ⟨P.length-(j+1),rnSt2 M6 ur up us v1 v2 k (j+1) D,by omega,le_sub ⟨rfl,rfl,rfl,rfl,rfl,rfl,rfl,rfl,trivial⟩ ⟨rfl,rfl,rfl,rfl,trivial⟩ rfl rfl rfl (keepLt0 _),M6,v1,v2,_,_,j+1,rfl,by omega,hM4.trans (c1.trans g1),isF_ofN g2 g3 (mulF_len' _ _ _ _),hv,rfl⟩
 ·rintro z ⟨M3,D,hD,hM2,hDo,hDv,rfl⟩
  have hM:=(m1.trans m2).trans hM2
  refine Fz.flat (k:=11) (n:=S.length) (w:=2) (T:=27) 11 (D.flatMap FR.c) [(8,.ext us),(6,.own 6 0),(3,.own 3 0)] [(6,40,[.ext (.slice none 0 0),.ext (.slice none 0 0),.ext (.slice none 0 0)]),(3,33,[.ext ur])] rfl rfl (by rw[flat_len (z:=2) (f:=FR.c) (fun _=>rfl),hD]) (Nat.zero_le _) ⟨rfl,rfl,rfl,trivial⟩ rfl ⟨rfl,rfl,trivial⟩ rfl (keepLt0 _) (fun j hj _=>absurd hj (Nat.not_lt_zero _)) (fun M4 w hM4 hw _=>?_)
  have hu:IsR M4 2 FR.c w D:=by unfold IsR;rw[hD];exact hw
  have p1:=hu.one
  have hn:=normF_Q hDv
  rw[←hn]at hK
  (try with_reducible refine Fz.of ?_);have hf:=A3 p1 o1 o3;refine sF ?_;(repeat' ((first|((with_reducible refine yN ?_);refine kS 57 (rwhole_ok hu (hDo.le hM4) (by omega) (fun U M5 c1 c2=>Stop.mk ?_)))|refine oB ?_|fail)<;>refine sF ?_<;>try with_reducible exact tT))<;>try clear hf
  have c1:Mem.le M4 M5:=c1
  have hM4:Mem.le M3 M4:=hM4
  have p2:U.oneCell'=true:=by obtain ⟨_,h,_,_⟩:=c2;exact h.one
  have m5:Mem.le M M5:=hM.trans (hM4.trans c1)
  unfold okB at hK
  by_cases h0:(normF D).1=0
  case neg=>
   rw[if_neg h0]at hK
   have hk:=hK.err m5
   have d0:decide ((normF D).1=0)=false:=decide_eq_false h0
   refine Stop.go ?_
   (try with_reducible refine Fz.of ?_);have hf:=A5 p1 p2 o1 o3 d0;refine sF ?_;(repeat' ((first|refine oB ?_|fail)<;>refine sF ?_<;>try with_reducible exact tT))<;>try clear hf
   exact hk
  rw[if_pos h0]at hK
  have d0:decide ((normF D).1=0)=true:=decide_eq_true h0
  have a6:=((a1.le m2).le hM2).le (hM4.trans c1)
  have hk:=hK ur us U M5 m5 (h1.le m5) a6 c2
  refine Stop.go ?_
  (try with_reducible refine Fz.of ?_);have hf:=A5 p1 p2 o1 o3 d0;refine sF ?_;(repeat' ((first|refine oB ?_|fail)<;>refine sF ?_<;>try with_reducible exact tT))<;>try clear hf
  exact hk
end
theorem IsL.toNat{M:Mem}{u:Value}{l:List Nat}(h:IsL M intV64 u (l.map fun (x:Nat)=>(x:Int))):IsL M natV u l:=by
 unfold IsL at h ⊢
 rw[List.map_map,List.length_map]at h
 exact h
def mapG{α:Type}(f:α→Int×Nat×Nat):List α→Int×List (Nat×Nat)
 | []=>(0,[])
 | x :: r=>if (f x).1=0 then (if (mapG f r).1=0 then (0,(f x).2 :: (mapG f r).2) else ((mapG f r).1,[])) else ((f x).1,[])
theorem mapG_cons{α:Type}(f:α→Int×Nat×Nat)(x:α)(r:List α):mapG f (x :: r)=if (f x).1=0 then (if (mapG f r).1=0 then (0,(f x).2 :: (mapG f r).2) else ((mapG f r).1,[])) else ((f x).1,[]):=by rw[mapG]
structure MapI {α:Type} (M:Mem) (f:α→Int×Nat×Nat) (L:List α) (D:List FR) (ds:List (Nat×Nat)) (i:Nat):Prop where
 len:D.length=i
 ok:okFL M D
 val:D.map prV=ds.map fun q=>(ofN q.1,ofN q.2)
 rest:mapG f L=if (mapG f (L.drop i)).1=0 then (0,ds++(mapG f (L.drop i)).2) else ((mapG f (L.drop i)).1,[])
theorem mapI_start{α:Type}(M:Mem)(f:α→Int×Nat×Nat)(L:List α):MapI M f L [] [] 0:=⟨rfl,fun x hx=>(by cases hx),rfl,by
 rw[List.drop_zero,List.nil_append]
 cases h:mapG f L with
 | mk e q=>
  by_cases h0:e=0
  ·subst h0;rfl
  ·rw[if_neg h0]
   have:∀(L:List α) e q,mapG f L=(e,q)→e≠0→q=[]:=fun L=>by
    cases L with
    | nil=>intro e q h h0;rw[mapG]at h;cases h;exact absurd rfl h0
    | cons x r=>
     intro e q h h0
     rw[mapG_cons]at h
     (repeat' split at h)<;>cases h<;>first|rfl|exact absurd rfl h0
   rw[this L e q h h0]⟩
theorem MapI.step{α:Type}{M M':Mem}{f:α→Int×Nat×Nat}{i:Nat}{L:List α}{D:List FR}{ds:List (Nat×Nat)}(h:MapI M f L D ds i)(hM:Mem.le M M')(hi:i<L.length){v1 v2:Value}(h0:(f L[i]).1=0)
  (hv:IsF M' v1 v2 (ofN (f L[i]).2.1) (ofN (f L[i]).2.2)) :
  MapI M' f L (D++[⟨v1,v2,ofN (f L[i]).2.1,ofN (f L[i]).2.2⟩]) (ds++[(f L[i]).2]) (i+1):=by
 refine ⟨by rw[List.length_append,h.len];rfl,fun x hx=>?_,by rw[List.map_append,List.map_append,h.val];rfl,?_⟩
 ·rcases List.mem_append.1 hx with hx|hx
  ·exact (h.ok x hx).le hM
  ·rw[List.mem_singleton.1 hx];exact hv
 ·have h1:=h.rest
  rw[List.drop_eq_getElem_cons hi,mapG_cons,if_pos h0]at h1
  rw[h1]
  by_cases h2:(mapG f (L.drop (i+1))).1=0
  ·rw[if_pos h2,if_pos h2];simp
  ·rw[if_neg h2,if_neg h2,if_neg h2]
theorem MapI.stop{α:Type}{M:Mem}{f:α→Int×Nat×Nat}{i:Nat}{L:List α}{D:List FR}{ds:List (Nat×Nat)}(h:MapI M f L D ds i)(hi:i<L.length)(h0:(f L[i]).1≠0):mapG f L=((f L[i]).1,[]):=by
 have h1:=h.rest
 rw[List.drop_eq_getElem_cons hi,mapG_cons,if_neg h0,if_neg h0]at h1
 exact h1
theorem MapI.done{α:Type}{M:Mem}{f:α→Int×Nat×Nat}{L:List α}{D:List FR}{ds:List (Nat×Nat)}(h:MapI M f L D ds L.length):mapG f L=(0,ds):=by
 have h1:=h.rest
 rw[List.drop_length,mapG,if_pos rfl,List.append_nil]at h1
 exact h1
def facU(eff:Nat)(fl dt:LP)(s:Nat):LP:=if eff &&& s=0 then fl else dt
def updF(eff:Nat)(fl dt:LP)(z:FR×Nat):Int×Nat×Nat:=mulF z.1.l1 z.1.l2 (facU eff fl dt z.2).1 (facU eff fl dt z.2).2
def updL(L:List FR)(S:List Nat)(eff:Nat)(fl dt:LP):Int×List (Nat×Nat):=mapG (updF eff fl dt) (L.zip S)
def thenN(l:List Int)(S:List Nat)(r:Int×List (Nat×Nat)):BR:=if r.1=0 then okB l S (normQ r.2) else errB r.1
def BelKH(M:Mem)(H:Hp)(K:AV→Hp→Mem→Prop)(r:BR):Prop:=∀ur us uw M',Mem.le M M'→IsL M' intV64 ur r.l→IsL M' natV us r.s→FQ M' uw r.q→K (.ext (.tuple #[.agg #[ur,us,uw],.int .i64 r.e])) H M'
theorem BelKH.err{M M':Mem}{H:Hp}{K:AV→Hp→Mem→Prop}{e:Int}(h:BelKH M H K (errB e))(hM:Mem.le M M'):K (.ext (.tuple #[.agg #[.slice none 0 0,.slice none 0 0,.slice none 0 0],.int .i64 e])) H M':=
 h _ _ _ M' hM (isL_nil _ _ _) (isL_nil _ _ _) (fq_nil _)
section
variable {M:Mem}{K:AV→Hp→Mem→Prop}{ur us uw x1 x2 y1 y2:Value}{l:List Int}{S:List Nat}{L:List FR}{fl dt:LP}
def updH(eff:Nat)(x1 x2 y1 y2:Value):Hp:=[(13,27,[.ext y1,.ext y2]),(12,27,[.ext x1,.ext x2]),(10,3,[.ext (.int .i64 (eff:Int))])]
theorem upd1_ok(eff s:Nat)(he:eff<256)(hs:s<256)(o1:x1.oneCell'=true)(o2:x2.oneCell'=true)(o3:y1.oneCell'=true)(o4:y2.oneCell'=true)
  (hK:K (.ext (if eff &&& s=0 then .agg #[y1,y2] else .agg #[x1,x2])) (updH eff x1 x2 y1 y2) M) :
  CallS Tryz.prog 71 [.ext (.int .i64 (s:Int)),.own 10 0,.own 12 0,.own 13 0] (updH eff x1 x2 y1 y2) M [] K:=by
 refine inlS (cs:=[]) Tryz.mixed Tryz.func71 rfl (by kernel_rfl) 100 rfl rfl ?_
 simp only[Tryz.f71]
 have ba:=bits_and (a:=eff) (b:=s) (by omega) (by omega)
 by_cases h:eff &&& s=0
 ·rw[if_pos h]at hK
  have d1:decide (((eff &&& s:Nat):Int)=0)=true:=by rw[h];rfl
  (try with_reducible refine Fz.of ?_);have hf:=A7 @updH.eq_1 ba d1 o1 o2 o3 o4;refine sF ?_;(repeat' ((first|refine oB ?_|fail)<;>refine sF ?_<;>try with_reducible exact tT))<;>try clear hf
  exact hK
 ·rw[if_neg h]at hK
  have d1:decide (((eff &&& s:Nat):Int)=0)=false:=by rw[decide_eq_false_iff_not];omega
  (try with_reducible refine Fz.of ?_);have hf:=A7 @updH.eq_1 ba d1 o1 o2 o3 o4;refine sF ?_;(repeat' ((first|refine oB ?_|fail)<;>refine sF ?_<;>try with_reducible exact tT))<;>try clear hf
  exact hK
def cgHp(eff:Nat)(ur us uw x1 x2 y1 y2:Value):Hp:=[(104,40,[.ext (.slice none 0 0),.ext (.slice none 0 0),.ext (.slice none 0 0)]),(102,40,[.ext ur,.ext us,.ext uw]),(13,27,[.ext y1,.ext y2]),(12,27,[.ext x1,.ext x2]),(10,3,[.ext (.int .i64 (eff:Int))])]
def cgSt(M:Mem)(ur us uw x1 x2 y1 y2:Value)(eff n k:Nat)(D:List FR):St:={env:=[(17,.ext (.int .i64 (k:Int))),(16,.ext (.int .i64 (n:Int))),(15,.ext us),(6,.slo 113 0 n 2),(4,.own 104 0),(2,.own 102 0),(1,.fn 71 [.own 10 0,.own 12 0,.own 13 0])],hp:=(113,27,frC (D++List.replicate (n-k) zFR)) :: cgHp eff ur us uw x1 x2 y1 y2,M:=M,kb:=100,fx:=[13,12,10]}
theorem changed_ok(eff:Nat)(he:eff<256)(hS:∀s∈S,s<256)(h1:IsL M intV64 ur l)(h2:IsL M natV us S)(h3:IsR M 2 FR.c uw L)(h4:okFL M L)(b1:l.length<1000000)(b2:S.length<1000000)(hl:S.length=L.length)
  (hx:IsF M x1 x2 dt.1 dt.2) (hy:IsF M y1 y2 fl.1 fl.2) (hK:BelKH M (updH eff x1 x2 y1 y2) K (thenN l S (updL L S eff fl dt))) :
  CallS Tryz.prog 70 [.ext (.agg #[ur,us,uw]),.fn 71 [.own 10 0,.own 12 0,.own 13 0]] (updH eff x1 x2 y1 y2) M [] K:=by
 refine inlS (cs:=[10]) Tryz.mixed Tryz.func70 rfl (by kernel_rfl) 100 rfl rfl ?_
 simp only[Tryz.f70]
 have o1:=h1.one
 have o2:=h2.one
 have o3:=h3.one
 have n2:=h2.len
 have n3:=h3.len
 have s2:=h2.sl
 have s3:=h3.sl
 have p1:=hx.n.one
 have p2:=hx.d.one
 have p3:=hy.n.one
 have p4:=hy.d.one
 rw[←hl]at n3
 have t1:=Int.toNat_natCast S.length
 have t2:=frC_rep S.length
 unfold updL at hK
 have e0:keysH (updH eff x1 x2 y1 y2)=[13,12,10]:=rfl
 have hzl:(L.zip S).length=S.length:=by rw[List.length_zip,hl,Nat.min_self]
 (try with_reducible refine Fz.of ?_);have hf:=A12 @updH.eq_1 o1 o2 o3 n2 n3 s2 s3 t1 t2 @frC_ment (A2 @frC_kill @hasK_nil);refine sF ?_;(repeat' ((first|refine oB ?_|fail)<;>refine sF ?_<;>try with_reducible exact tT))<;>try clear hf
 refine ⟨fun z=>∃M' D ds,Mem.le M M'∧MapI M' (updF eff fl dt) (L.zip S) D ds S.length∧z=cgSt M' ur us uw x1 x2 y1 y2 eff S.length S.length D,?_,?_⟩
 ·(try with_reducible refine Fz.of ?_);have hf:=A12 @updH.eq_1 o1 o2 o3 n2 n3 s2 s3 t1 t2 @frC_ment (A2 @frC_kill @hasK_nil);refine sF ?_;(repeat' ((first|refine oB ?_|fail)<;>refine sF ?_<;>try with_reducible exact tT))<;>try clear hf
  refine ⟨fun m z=>∃M' D ds k,m=S.length-k∧k≤S.length∧Mem.le M M'∧MapI M' (updF eff fl dt) (L.zip S) D ds k∧z=cgSt M' ur us uw x1 x2 y1 y2 eff S.length k D,
   ⟨S.length,cgSt M ur us uw x1 x2 y1 y2 eff S.length 0 [],le_sub ⟨rfl,rfl,rfl,rfl,rfl,rfl,rfl,trivial⟩ ⟨rfl,rfl,rfl,rfl,rfl,rfl,trivial⟩ rfl rfl rfl (keepLt_of rfl),⟨M,[],[],0,by omega,by omega,Mem.le.refl _,mapI_start _ _ _,rfl⟩⟩,?_⟩
  rintro m z ⟨M2,D,ds,k,rfl,hk,hM,hD,rfl⟩
  by_cases hlt:k<S.length
  case neg=>
   obtain rfl:k=S.length:=by omega
   have d1:decide ((S.length:Int)<(S.length:Int))=false:=by simp
   (try with_reducible refine Fz.of ?_);have hf:=A9 @cgSt.eq_1 @cgHp.eq_1 d1 o1 o2 o3 @frC_ment @frC_kill @hasK_nil;refine sF ?_;(repeat' ((first|refine oB ?_|fail)<;>refine sF ?_<;>try with_reducible exact tT))<;>try clear hf
   exact ⟨cgSt M2 ur us uw x1 x2 y1 y2 eff S.length S.length D,le_sub ⟨rfl,rfl,rfl,rfl,rfl,rfl,rfl,trivial⟩ ⟨rfl,rfl,rfl,rfl,rfl,rfl,trivial⟩ rfl rfl rfl (keepLt_of rfl),M2,D,ds,hM,hD,rfl⟩
  have d1:decide ((k:Int)<(S.length:Int))=true:=by rw[decide_eq_true_eq];omega
  have q1:(0:Int)≤(k:Int):=by omega
  have q2:(k:Int)<(S.length:Int):=by omega
  have hkL:k<L.length:=by omega
  have f1:=(h2.le hM).idx (P:=Tryz.prog) (T:=3) tk3 tz3 (by omega) hlt
  have hs:=hS _ (List.getElem_mem hlt)
  have wk:IntKind.i64.wrap ((k:Int)+1)=((k+1:Nat):Int):=succ_i (by omega)
  have hlen:=frC_len (D++List.replicate (S.length-k) zFR)
  rw[List.length_append,hD.len,List.length_replicate,show k+(S.length-k)=S.length by omega]at hlen
  have hin:k*2+2≤S.length*2:=by omega
  have hu2:=h3.le hM
  have hnn:=hu2.nn hkL
  have hat:=hu2.at (P:=Tryz.prog) (T:=27) (fun _=>rfl) tk27 tz27 hkL
  have hF:=(h4.le hM) _ (List.getElem_mem hkL)
  have hk':k<(L.zip S).length:=by omega
  obtain ⟨x,hxe⟩:∃x,x=L[k]:=⟨_,rfl⟩
  obtain ⟨s,hse⟩:∃s,s=S[k]:=⟨_,rfl⟩
  have hz:(L.zip S)[k]=(x,s):=by rw[List.getElem_zip,hxe,hse]
  have hstep:=fun (M3:Mem) (v1 v2:Value) (c:Mem.le M2 M3)=>hD.step c hk' (v1:=v1) (v2:=v2)
  have hstop:=hD.stop hk'
  rw[hz]at hstop
  simp only[hz]at hstep
  rw[←hse]at f1 hs
  rw[←hxe]at hat hF
  clear hz hxe hse
  obtain ⟨v1,v2,w1,w2⟩:=x
  have hat:lookM Tryz.prog 27 M2 (elemP uw 2 k)=some (.agg #[v1,v2]):=hat
  have hF:IsF M2 v1 v2 w1 w2:=hF
  have p5:=hF.n.one
  have p6:=hF.d.one
  obtain ⟨z1,z2,hz,hzf⟩:∃z1 z2,(if eff &&& s=0 then Value.agg #[y1,y2] else .agg #[x1,x2])=.agg #[z1,z2]∧IsF M2 z1 z2 (facU eff fl dt s).1 (facU eff fl dt s).2:=by
   unfold facU
   by_cases h:eff &&& s=0
   ·rw[if_pos h,if_pos h];exact ⟨_,_,rfl,hy.le hM⟩
   ·rw[if_neg h,if_neg h];exact ⟨_,_,rfl,hx.le hM⟩
  have huf:updF eff fl dt (⟨v1,v2,w1,w2⟩,s)=mulF w1 w2 (facU eff fl dt s).1 (facU eff fl dt s).2:=rfl
  rw[huf]at hstop
  simp only[huf]at hstep
  clear huf
  have p7:=hzf.n.one
  have p8:=hzf.d.one
  generalize (facU eff fl dt s).1=g1 at *
  generalize (facU eff fl dt s).2=g2 at *
  (try with_reducible refine Fz.of ?_);have hf:=A12 @cgSt.eq_1 @cgHp.eq_1 @natV.eq_1 d1 q1 q2 f1 hnn hat o1 o2 (A10 o3 n2 n3 s2 s3 p5 p6 @frC_ment @frC_kill @hasK_nil);refine sF ?_;(repeat' ((first|((with_reducible first|refine yB ?_|refine yC ?_);first|refine kG 71 ?_|refine kS 71 (upd1_ok eff s he hs p1 p2 p3 p4 (Stop.mk ?_)))|((with_reducible refine isE 23 (by decide) ?_);refine dR (rP 0 4 [] ((4,[3]) :: (5,[]) :: (6,[]) :: (rP 7 3 [3,6] (rP 10 7 [] [])))) (rgL 22 15 []) [] ?_)|((with_reducible refine isE 51 (by decide) ?_);refine dR (rP 0 3 [] ((5,[2]) :: (6,[2]) :: (8,[2,6]) :: (3,[6]) :: (4,[6]) :: (7,[]) :: (rP 9 3 [] []))) (rgL 51 9 []) [] ?_)|refine oB ?_|fail)<;>refine sF ?_<;>try with_reducible exact tT))<;>try clear hf
  rw[hz]
  refine Stop.go ?_
  (try with_reducible refine Fz.of ?_);have hf:=A12 @updH.eq_1 q1 q2 hnn hat o1 o2 o3 n2 n3 s2 (A8 s3 p5 p6 p7 p8 @frC_ment @frC_kill @hasK_nil);refine sF ?_;(repeat' ((first|((with_reducible refine yM ?_);refine kS 25 (fmul_ok hF hzf (fun r1 r2 M3 c1 c2 c3 _ _=>Stop.mk ?_)))|refine oB ?_|fail)<;>refine sF ?_<;>try with_reducible exact tT))<;>try clear hf
  have c1:Mem.le M2 M3:=c1
  have hv:=isF_ofN c2 c3 (mulF_len' w1 w2 g1 g2)
  have p9:=c2.one
  have p10:=c3.one
  have hst:=frC_setF (L:=D++List.replicate (S.length-k) zFR) (i:=k) (by rw[List.length_append,hD.len,List.length_replicate];omega) ⟨r1,r2,ofN (mulF w1 w2 g1 g2).2.1,ofN (mulF w1 w2 g1 g2).2.2⟩
  rw[set_fill D _ _ hD.len hlt]at hst
  refine Stop.go ?_
  by_cases h0:(mulF w1 w2 g1 g2).1=0
  ·have e2:decide ((mulF w1 w2 g1 g2).1=0)=true:=decide_eq_true h0
   (try with_reducible refine Fz.of ?_);have hf:=A12 e0 @updH.eq_1 p9 p10 e2 o1 o2 o3 p1 p2 p3 (A11 p4 wk q1 q2 hlen hin hst @frC_ment @frC_kill @hasK_nil @Nat.zero_add);refine sF ?_;(repeat' ((first|((with_reducible refine isE 23 (by decide) ?_);refine dR (rP 0 4 [] ((4,[3]) :: (5,[]) :: (6,[]) :: (rP 7 3 [3,6] (rP 10 7 [] [])))) (rgL 22 15 []) [] ?_)|((with_reducible refine isE 51 (by decide) ?_);refine dR (rP 0 3 [] ((5,[2]) :: (6,[2]) :: (8,[2,6]) :: (3,[6]) :: (4,[6]) :: (7,[]) :: (rP 9 3 [] []))) (rgL 51 9 []) [] ?_)|refine oB ?_|fail)<;>refine sF ?_<;>try with_reducible exact tT))<;>try clear hf
   exact ⟨S.length-(k+1),cgSt M3 ur us uw x1 x2 y1 y2 eff S.length (k+1) _,by omega,le_sub ⟨rfl,rfl,rfl,rfl,rfl,rfl,rfl,trivial⟩ ⟨rfl,rfl,rfl,rfl,rfl,rfl,trivial⟩ rfl rfl rfl (keepLt_of rfl),M3,_,_,k+1,rfl,by omega,hM.trans c1,hstep M3 r1 r2 c1 h0 hv,rfl⟩
  ·have e2:decide ((mulF w1 w2 g1 g2).1=0)=false:=decide_eq_false h0
   rw[hstop h0]at hK
   unfold thenN at hK
   rw[if_neg h0]at hK
   have hk:=hK.err (hM.trans c1)
   (try with_reducible refine Fz.of ?_);have hf:=A12 e0 @updH.eq_1 p9 p10 e2 o1 o2 o3 p1 p2 p3 (A11 p4 wk q1 q2 hlen hin hst @frC_ment @frC_kill @hasK_nil @Nat.zero_add);refine sF ?_;(repeat' ((first|((with_reducible refine isE 23 (by decide) ?_);refine dR (rP 0 4 [] ((4,[3]) :: (5,[]) :: (6,[]) :: (rP 7 3 [3,6] (rP 10 7 [] [])))) (rgL 22 15 []) [] ?_)|((with_reducible refine isE 51 (by decide) ?_);refine dR (rP 0 3 [] ((5,[2]) :: (6,[2]) :: (8,[2,6]) :: (3,[6]) :: (4,[6]) :: (7,[]) :: (rP 9 3 [] []))) (rgL 51 9 []) [] ?_)|refine oB ?_|fail)<;>refine sF ?_<;>try with_reducible exact tT))<;>try clear hf
   exact hk
 ·rintro z ⟨M3,D,ds,hM,hD,rfl⟩
  rw[←hzl]at hD
  rw[hD.done]at hK
  rw[hzl]at hD
  unfold thenN at hK
  rw[if_pos rfl]at hK
  refine Fz.flat (k:=113) (n:=S.length) (w:=2) (T:=27) 6 (D.flatMap FR.c) [(4,.own 104 0),(2,.own 102 0)] (cgHp eff ur us uw x1 x2 y1 y2) rfl (by
   show some (_,frC (D++List.replicate (S.length-S.length) zFR))=_
   rw[Nat.sub_self,List.replicate_zero,List.append_nil];rfl) (by rw[flat_len (z:=2) (f:=FR.c) (fun _=>rfl),hD.len]) (show 100≤113 by decide) ⟨rfl,rfl,trivial⟩ rfl ⟨rfl,rfl,rfl,rfl,rfl,trivial⟩ rfl (keepLt_of rfl) (fun j hj hj2=>?_) (fun M4 w hM4 hw _=>?_)
  ·have hj:j<100:=hj
   show j∈[13,12,10]
   by_cases e1:j=13
   ·subst e1;decide
   by_cases e2:j=12
   ·subst e2;decide
   by_cases e3:j=10
   ·subst e3;decide
   exfalso
   simp only[cgSt,cgHp,lkH]at hj2
   rw[if_neg (by omega),if_neg (by omega),if_neg (by omega),if_neg (by omega),if_neg (by omega),if_neg (by omega)]at hj2
   cases hj2
  have hu:IsR M4 2 FR.c w D:=by unfold IsR;rw[hD.len];exact hw
  have p5:=hu.one
  have hn:=normF_Q hD.val
  rw[←hn]at hK
  have hM4:Mem.le M3 M4:=hM4
  (try with_reducible refine Fz.of ?_);have hf:=A6 @cgSt.eq_1 @cgHp.eq_1 p5 o1 o2 o3;refine sF ?_;(repeat' ((first|((with_reducible first|refine yN ?_|refine yM ?_);refine kS 49 (normal_ok hu (hD.ok.le hM4) (by have:=hD.len;omega) (fun U M5 c1 c2=>Stop.mk ?_)))|refine oB ?_|fail)<;>refine sF ?_<;>try with_reducible exact tT))<;>try clear hf
  have c1:Mem.le M4 M5:=c1
  have p6:U.oneCell'=true:=by obtain ⟨_,h,_,_⟩:=c2;exact h.one
  have m5:Mem.le M M5:=hM.trans (hM4.trans c1)
  unfold okB at hK
  by_cases h0:(normF D).1=0
  case neg=>
   rw[if_neg h0]at hK
   have hk:=hK.err m5
   have d0:decide ((normF D).1=0)=false:=decide_eq_false h0
   refine Stop.go ?_
   (try with_reducible refine Fz.of ?_);have hf:=A12 @cgSt.eq_1 e0 @updH.eq_1 p1 p2 p3 p4 p5 p6 o1 o2 (A2 o3 d0);refine sF ?_;(repeat' ((first|refine oB ?_|fail)<;>refine sF ?_<;>try with_reducible exact tT))<;>try clear hf
   exact hk
  rw[if_pos h0]at hK
  have d0:decide ((normF D).1=0)=true:=decide_eq_true h0
  refine Stop.go ?_
  (try with_reducible refine Fz.of ?_);have hf:=A12 @cgSt.eq_1 e0 @updH.eq_1 p1 p2 p3 p4 p5 p6 o1 o2 (A2 o3 d0);refine sF ?_;(repeat' ((first|((with_reducible refine yM ?_);refine kS 50 (cloneI_ok ur l (h1.le m5) (by omega) (fun v M6 g1 g2 _=>Stop.mk ?_)))|((with_reducible refine isE 23 (by decide) ?_);refine dR (rP 0 4 [] ((4,[3]) :: (5,[]) :: (6,[]) :: (rP 7 3 [3,6] (rP 10 7 [] [])))) (rgL 22 15 []) [] ?_)|((with_reducible refine isE 51 (by decide) ?_);refine dR (rP 0 3 [] ((5,[2]) :: (6,[2]) :: (8,[2,6]) :: (3,[6]) :: (4,[6]) :: (7,[]) :: (rP 9 3 [] []))) (rgL 51 9 []) [] ?_)|refine oB ?_|fail)<;>refine sF ?_<;>try with_reducible exact tT))<;>try clear hf
  have g1:Mem.le M5 M6:=g1
  have p7:=g2.one
  have m6:=m5.trans g1
  have hu6:=IsL.nat (h2.le m6)
  refine Stop.go ?_
  (try with_reducible refine Fz.of ?_);have hf:=A12 @cgSt.eq_1 e0 @updH.eq_1 p1 p2 p3 p4 p5 p6 p7 o1 (A3 o2 o3 d0);refine sF ?_;(repeat' ((first|((with_reducible refine yM ?_);refine kS 50 (cloneI_ok us _ hu6 (by rw[List.length_map];omega) (fun v' M7 g3 g4 _=>Stop.mk ?_)))|refine oB ?_|fail)<;>refine sF ?_<;>try with_reducible exact tT))<;>try clear hf
  have g3:Mem.le M6 M7:=g3
  have p8:=g4.one
  have hk:=hK v v' U M7 (m6.trans g3) (g2.le g3) g4.toNat (c2.le (g1.trans g3))
  refine Stop.go ?_
  (try with_reducible refine Fz.of ?_);have hf:=A12 @cgSt.eq_1 e0 @updH.eq_1 p1 p2 p3 p4 p5 p6 p7 p8 (A4 o1 o2 o3 d0);refine sF ?_;(repeat' ((first|refine oB ?_|fail)<;>refine sF ?_<;>try with_reducible exact tT))<;>try clear hf
  exact hk
end
def outF(failed:Bool)(a:LP):LP:=if failed then a else (ofN (othF a.1 a.2).1,ofN (othF a.1 a.2).2)
def toN(s:List Int):List Nat:=s.map Int.toNat
def updB(l s:List Int)(L:List FR)(fl dt:LP)(pool:Int)(failed:Bool):BR:=
 if chkB l s L&&noiF fl.1 fl.2 dt.1 dt.2 then (if setB l pool then thenN l (toN s) (updL L (toN s) (effN l pool.toNat) (outF failed fl) (outF failed dt)) else errB 3) else errB 1
theorem toN_hI(l:List Int)(m:Int):toN (hI l m)=setsL l m:=by
 unfold toN hI
 rw[List.map_map]
 exact List.map_id'' (fun x=>rfl) _
structure ChkB (l s:List Int) (L:List FR):Prop where
 cl:chkL l=true
 cn:s.length=L.length
 cs:s=(toN s).map fun (x:Nat)=>(x:Int)
 cb:∀x∈toN s,x<256
theorem hI_ok{l:List Int}(hc:chkL l=true)(m:Int):hI l m=(toN (hI l m)).map (fun (x:Nat)=>(x:Int))∧∀x∈toN (hI l m),x<256:=by
 refine ⟨by rw[toN_hI];rfl,fun x hx=>?_⟩
 rw[toN_hI]at hx
 unfold setsL at hx
 split at hx
 ·unfold hyps hypTo at hx
  have:=List.mem_range.1 (List.mem_filter.1 hx).1
  have h2:2^l.length≤2^8:=Nat.pow_le_pow_right (by decide) (chk_len hc).2
  omega
 ·cases hx
theorem chkB_of{l s:List Int}{L:List FR}(h:chkB l s L=true):ChkB l s L:=by
 unfold chkB at h
 simp only[Bool.and_eq_true,decide_eq_true_eq]at h
 obtain ⟨h1,h2,h3,_⟩:=h
 have hs:∃m,s=hI l m:=by
  unfold chkS at h3
  simp only[Bool.or_eq_true,decide_eq_true_eq]at h3
  rcases h3 with h3|h3
  ·exact ⟨1,h3.symm⟩
  ·exact ⟨2,h3.symm⟩
 obtain ⟨m,hm⟩:=hs
 have:=hI_ok h1 m
 rw[←hm]at this
 exact ⟨h1,h2,this.1,this.2⟩
theorem effG_lt{l:List Int}{p:Nat}(hl:l.length≤8):∀i out rev,i≤8→out<256→effG l p i out rev<256
 | 0,out,_,_,h=>by rw[effG];exact h
 | i+1,out,rev,hi,h=>by
  rw[effG]
  have h2:out ||| 2^i<256:=or_lt8 h (lt_pow8 (by omega))
  (repeat' split)<;>exact effG_lt hl i _ _ (by omega) (by first|exact h|exact h2)
theorem effN_lt{l:List Int}{p:Nat}(hl:chkL l=true):effN l p<256:=effG_lt (chk_len hl).2 _ _ _ (chk_len hl).2 (by decide)
section
variable {M:Mem}{K:AV→Hp→Mem→Prop}{ur us uw x1 x2 y1 y2:Value}{l s:List Int}{L:List FR}{fl dt:LP}
theorem update_ok(pool:Int)(failed:Bool)(h1:IsL M intV64 ur l)(h2:IsL M intV64 us s)(h3:IsR M 2 FR.c uw L)(h4:okFL M L)(b1:l.length<1000000)(b2:s.length<1000000)(b3:L.length<1000000)
  (hy:IsF M y1 y2 fl.1 fl.2) (hx:IsF M x1 x2 dt.1 dt.2) (hK:BelK M K (updB l s L fl dt pool failed)) :
  CallS Tryz.prog 21 [.ext (.agg #[ur,us,uw]),.ext (.agg #[y1,y2,x1,x2]),.ext (.int .i64 pool),.ext (.bool failed)] [] M [] K:=by
 refine inlS (cs:=[]) Tryz.mixed Tryz.func21 rfl (by kernel_rfl) 0 rfl rfl ?_
 simp only[Tryz.f21]
 have o1:=h1.one
 have o2:=h2.one
 have o3:=h3.one
 have p1:=hx.n.one
 have p2:=hx.d.one
 have p3:=hy.n.one
 have p4:=hy.d.one
 unfold updB at hK
 have hf:=A7 o1 o2 o3 p1 p2 p3 p4;refine sF ?_;(repeat' ((first|((with_reducible refine yN ?_);refine kS 18 (pcheck_ok h1 h2 h3 h4 b1 b2 b3 (fun M1 m1=>Stop.mk ?_)))|refine oB ?_|fail)<;>refine sF ?_<;>try with_reducible exact tT))<;>try clear hf
 have m1:Mem.le M M1:=m1
 cases hc:chkB l s L with
 | false=>
  rw[hc]at hK
  have hk:=BelK.err hK m1
  refine Stop.go ?_
  have hf:=A8 o1 o2 o3 p1 p2 p3 p4 hc;refine sF ?_;(repeat' ((first|refine oB ?_|fail)<;>refine sF ?_<;>try with_reducible exact tT))<;>try clear hf
  exact hk
 | true=>
 rw[hc,Bool.true_and]at hK
 refine Stop.go ?_
 have hf:=A8 o1 o2 o3 p1 p2 p3 p4 hc;refine sF ?_;(repeat' ((first|((with_reducible refine yN ?_);refine kS 68 (noi_ok (hy.le m1) (hx.le m1) (fun M2 m2=>Stop.mk ?_)))|refine oB ?_|fail)<;>refine sF ?_<;>try with_reducible exact tT))<;>try clear hf
 have m2:Mem.le M1 M2:=m2
 cases hn:noiF fl.1 fl.2 dt.1 dt.2 with
 | false=>
  rw[hn]at hK
  have hk:=BelK.err hK (m1.trans m2)
  refine Stop.go ?_
  have hf:=A8 o1 o2 o3 p1 p2 p3 p4 hn;refine sF ?_;(repeat' ((first|refine oB ?_|fail)<;>refine sF ?_<;>try with_reducible exact tT))<;>try clear hf
  exact hk
 | true=>
 rw[hn,if_pos rfl]at hK
 have hM2:Mem.le M M2:=m1.trans m2
 have hcb:=chkB_of hc
 have hl:=chk_len hcb.cl
 cases hs:setB l pool with
 | false=>
  rw[hs]at hK
  have hk:=BelK.err hK hM2
  have he:effR l pool=(0,3):=by unfold effR;rw[hcb.cl,hs];rfl
  refine Stop.go ?_
  have hf:=A10 o1 o2 o3 p1 p2 p3 p4 hn @itup.eq_1 he;refine sF ?_;(repeat' ((first|((with_reducible refine yN ?_);refine kS 69 (Effective_ok ur l pool (h1.le hM2) (by omega) ?_))|refine oB ?_|fail)<;>refine sF ?_<;>try with_reducible exact tT))<;>try clear hf
  exact hk
 | true=>
 rw[hs,if_pos rfl]at hK
 have he:effR l pool=(((effN l pool.toNat:Nat):Int),0):=by unfold effR;rw[hcb.cl,hs];rfl
 have hlt:=effN_lt (p:=pool.toNat) hcb.cl
 generalize effN l pool.toNat=eff at *
 have h2':IsL M natV us (toN s):=by
  have:=h2
  rw[hcb.cs]at this
  exact this.toNat
 have hle:(toN s).length=s.length:=by unfold toN;rw[List.length_map]
 cases failed with
 | true=>
  refine Stop.go ?_
  have hf:=A10 o1 o2 o3 p1 p2 p3 p4 hn @itup.eq_1 he;refine sF ?_;(repeat' ((first|((with_reducible refine yN ?_);refine kS 69 (Effective_ok ur l pool (h1.le hM2) (by omega) ?_))|((with_reducible first|refine yA ?_|refine yC ?_);first|refine kH 70 ?_|refine kS 70 (changed_ok (S:=toN s) eff hlt hcb.cb (h1.le hM2) (h2'.le hM2) (h3.le hM2) (h4.le hM2) b1 (by omega) (by rw[hle];exact hcb.cn) (hx.le hM2) (hy.le hM2) (fun wr ws ww M3 m3 a1 a2 a3=>Stop.mk ?_)))|((with_reducible refine isE 34 (by decide) ?_);refine dR [(0,[]),(1,[]),(2,[1]),(3,[1]),(4,[1,3]),(5,[1,3]),(6,[3]),(7,[])] (12 :: 13 :: (rgL 34 4 [])) [] ?_)|((with_reducible refine isE 40 (by decide) ?_);refine dR ((0,[]) :: (2,[0]) :: (1,[2]) :: (rP 3 3 [] [])) (rgL 40 3 []) [] ?_)|refine oB ?_|fail)<;>refine sF ?_<;>try with_reducible exact tT))<;>try clear hf
  have p5:=a1.one
  have p6:=a2.one
  have p7:ww.oneCell'=true:=by obtain ⟨_,h,_,_⟩:=a3;exact h.one
  have hk:=hK wr ws ww M3 (hM2.trans m3) a1 a2 a3
  refine Stop.go ?_
  have hf:=A4 @updH.eq_1 p5 p6 p7;refine sF ?_;(repeat' ((first|refine oB ?_|fail)<;>refine sF ?_<;>try with_reducible exact tT))<;>try clear hf
  exact hk
 | false=>
  refine Stop.go ?_
  have hf:=A10 o1 o2 o3 p1 p2 p3 p4 hn @itup.eq_1 he;refine sF ?_;(repeat' ((first|((with_reducible first|refine yN ?_|refine yM ?_);first|refine kS 69 (Effective_ok ur l pool (h1.le hM2) (by omega) ?_)|refine kS 47 (other_ok (hx.le hM2) (fun w1 w2 M3 c1 c2 _ _=>Stop.mk ?_)))|((with_reducible refine isE 34 (by decide) ?_);refine dR [(0,[]),(1,[]),(2,[1]),(3,[1]),(4,[1,3]),(5,[1,3]),(6,[3]),(7,[])] (12 :: 13 :: (rgL 34 4 [])) [] ?_)|((with_reducible refine isE 40 (by decide) ?_);refine dR ((0,[]) :: (2,[0]) :: (1,[2]) :: (rP 3 3 [] [])) (rgL 40 3 []) [] ?_)|refine oB ?_|fail)<;>refine sF ?_<;>try with_reducible exact tT))<;>try clear hf
  have c1:Mem.le M2 M3:=c1
  have q1:=c2.n.one
  have q2:=c2.d.one
  have m3:=hM2.trans c1
  refine Stop.go ?_
  have hf:=A10 o1 o2 o3 p1 p2 p3 p4 q1 q2 hn;refine sF ?_;(repeat' ((first|((with_reducible refine yM ?_);refine kS 47 (other_ok (hy.le m3) (fun w3 w4 M4 c3 c4 _ _=>Stop.mk ?_)))|refine oB ?_|fail)<;>refine sF ?_<;>try with_reducible exact tT))<;>try clear hf
  have c3:Mem.le M3 M4:=c3
  have q3:=c4.n.one
  have q4:=c4.d.one
  have m4:=m3.trans c3
  refine Stop.go ?_
  have hf:=A8 o1 o2 o3 q1 q2 q3 q4 hn;refine sF ?_;(repeat' ((first|((with_reducible first|refine yA ?_|refine yC ?_);first|refine kH 70 ?_|refine kS 70 (changed_ok (fl:=outF false fl) (dt:=outF false dt) (S:=toN s) eff hlt hcb.cb (h1.le m4) (h2'.le m4) (h3.le m4) (h4.le m4) b1 (by omega) (by rw[hle];exact hcb.cn) (c2.le c3) c4 (fun wr ws ww M5 m5 a1 a2 a3=>Stop.mk ?_)))|refine oB ?_|fail)<;>refine sF ?_<;>try with_reducible exact tT))<;>try clear hf
  have m5:Mem.le M4 M5:=m5
  have p5:=a1.one
  have p6:=a2.one
  have p7:ww.oneCell'=true:=by obtain ⟨_,h,_,_⟩:=a3;exact h.one
  have hk:=hK wr ws ww M5 (m4.trans m5) a1 a2 a3
  refine Stop.go ?_
  have hf:=A4 @updH.eq_1 p5 p6 p7;refine sF ?_;(repeat' ((first|refine oB ?_|fail)<;>refine sF ?_<;>try with_reducible exact tT))<;>try clear hf
  exact hk
end
section
variable {M:Mem}{K:AV→Hp→Mem→Prop}{ur us uw x1 x2 y1 y2:Value}{l s:List Int}{S:List Nat}{L:List FR}{fl dt:LP}
end
theorem wN_pow2(i:Nat):wN i=2^(32*i):=by unfold wN;rw[Nat.pow_mul]
section
variable {M:Mem}{K:AV→Hp→Mem→Prop}{u1 u2 v1 v2:Value}{l1 l2 k1 k2:List Nat}
theorem sameFrac_ok(h1:IsL M u32V u1 l1)(h2:IsL M u32V u2 l2)(k1:IsL M u32V v1 l1)(k2:IsL M u32V v2 l2)(b1:l1.length<1000000000)(b2:l2.length<1000000000)(hK:K (.ext (.bool true)) [] M):CallS Tryz.prog 26 [.ext (.agg #[u1,u2]),.ext (.agg #[v1,v2])] [] M [] K:=by
 refine inlS (cs:=[]) Tryz.mixed Tryz.func26 rfl (by kernel_rfl) 0 rfl rfl ?_
 simp only[Tryz.f26]
 have hf:=A4 h1.one h2.one k1.one k2.one;refine sF ?_;(repeat' ((first|((with_reducible refine yN ?_);first|refine kS 75 (sameNat_ok u1 v1 l1 h1 k1 b1 ?_)|refine kS 75 (sameNat_ok u2 v2 l2 h2 k2 b2 ?_))|refine oB ?_|fail)<;>refine sF ?_<;>try with_reducible exact tT))<;>try clear hf
 exact hK
end
theorem FQ.one{M:Mem}{u:Value}{qs:List (Nat×Nat)}(h:FQ M u qs):u.oneCell'=true:=by obtain ⟨_,h,_,_⟩:=h;exact h.one
structure IsB (M:Mem) (ur us uw:Value) (l:List Int) (s:List Nat) (q:List (Nat×Nat)):Prop where
 l:IsL M intV64 ur l
 s:IsL M natV us s
 q:FQ M uw q
theorem IsB.le{M M':Mem}{ur us uw:Value}{l:List Int}{s:List Nat}{q:List (Nat×Nat)}(h:IsB M ur us uw l s q)(hM:Mem.le M M'):IsB M' ur us uw l s q:=⟨h.l.le hM,h.s.le hM,h.q.le hM⟩
section
variable {M:Mem}{K:AV→Hp→Mem→Prop}{ur us uw vr vs vw:Value}{l:List Int}{s:List Nat}{q:List (Nat×Nat)}
def samSt(M:Mem)(ur us uw vr vs vw:Value)(i:Nat):St:={env:=[(5,.ext (.int .i64 (i:Int))),(3,.own 3 0),(2,.own 2 0)],hp:=[(3,40,[.ext vr,.ext vs,.ext vw]),(2,40,[.ext ur,.ext us,.ext uw])],M:=M,kb:=0,fx:=[]}
theorem same35_ok(h:IsB M ur us uw l s q)(g:IsB M vr vs vw l s q)(b1:l.length<1000000)(b2:s.length<1000000)(b3:q.length<1000000)(hK:K (.ext (.bool true)) [] M) :
  CallS Tryz.prog 17 [.ext (.agg #[ur,us,uw]),.ext (.agg #[vr,vs,vw])] [] M [] K:=by
 obtain ⟨L,h3,h4,hq⟩:=h.q
 obtain ⟨L',g3,g4,gq⟩:=g.q
 have hl:L.length=q.length:=by have:=congrArg List.length hq;simpa using this
 have gl:L'.length=q.length:=by have:=congrArg List.length gq;simpa using this
 refine inlS (cs:=[]) Tryz.mixed Tryz.func17 rfl (by kernel_rfl) 0 rfl rfl ?_
 simp only[Tryz.f17]
 have o1:=h.l.one
 have o2:=h.s.one
 have o3:=h3.one
 have o4:=g.l.one
 have o5:=g.s.one
 have o6:=g3.one
 have n3:=h3.len
 have n6:=g3.len
 have s3:=h3.sl
 have s6:=g3.sl
 rw[hl]at n3
 rw[gl]at n6
 have e1:decide (l=l)=true:=by simp
 have e2:decide ((s.map fun (x:Nat)=>(x:Int))=(s.map fun (x:Nat)=>(x:Int)))=true:=by simp
 have e3:decide ((q.length:Int)=(q.length:Int))=true:=by simp
 have hf:=A12 o1 o2 o3 o4 o5 o6 n3 n6 s3 s6 e1 (A2 e2 e3);refine sF ?_;(repeat' ((first|((with_reducible refine yN ?_);first|refine kS 58 (sameInts_ok ur vr l l h.l g.l (by omega) (by omega) ?_)|refine kS 58 (sameInts_ok us vs _ _ h.s.nat g.s.nat (by rw[List.length_map];omega) (by rw[List.length_map];omega) ?_))|refine oB ?_|fail)<;>refine sF ?_<;>try with_reducible exact tT))<;>try clear hf
 refine ⟨fun m z=>∃i,m=q.length-i∧i≤q.length∧z=samSt M ur us uw vr vs vw i,
  ⟨q.length,samSt M ur us uw vr vs vw 0,le_sub ⟨rfl,rfl,rfl,trivial⟩ ⟨rfl,rfl,trivial⟩ rfl rfl rfl (keepLt0 _),⟨0,by omega,by omega,rfl⟩⟩,?_⟩
 rintro m z ⟨i,rfl,hi,rfl⟩
 by_cases hlt:i<q.length
 case neg=>
  obtain rfl:i=q.length:=by omega
  have d1:decide ((q.length:Int)<(q.length:Int))=false:=by simp
  have hf:=A12 @samSt.eq_1 d1 o1 o2 o3 o4 o5 o6 n3 n6 s3 s6;refine sF ?_;(repeat' ((first|refine oB ?_|fail)<;>refine sF ?_<;>try with_reducible exact tT))<;>try clear hf
  exact hK
 have d1:decide ((i:Int)<(q.length:Int))=true:=by rw[decide_eq_true_eq];omega
 have q1:(0:Int)≤(i:Int):=by omega
 have q2:(i:Int)<(q.length:Int):=by omega
 have wi:IntKind.i64.wrap ((i:Int)+1)=((i+1:Nat):Int):=succ_i (by omega)
 have k1:i<L.length:=by omega
 have k2:i<L'.length:=by omega
 have nn1:=h3.nn k1
 have nn2:=g3.nn k2
 have a1:=h3.at (P:=Tryz.prog) (T:=27) (fun _=>rfl) tk27 tz27 k1
 have a2:=g3.at (P:=Tryz.prog) (T:=27) (fun _=>rfl) tk27 tz27 k2
 have f1:=h4 _ (List.getElem_mem k1)
 have f2:=g4 _ (List.getElem_mem k2)
 have v1:prV L[i]=(ofN q[i].1,ofN q[i].2):=by
  have:=congrArg (fun X=>X[i]?) hq
  simp only[List.getElem?_map,List.getElem?_eq_getElem k1,List.getElem?_eq_getElem hlt,Option.map_some]at this
  exact Option.some.inj this
 have v2:prV L'[i]=(ofN q[i].1,ofN q[i].2):=by
  have:=congrArg (fun X=>X[i]?) gq
  simp only[List.getElem?_map,List.getElem?_eq_getElem k2,List.getElem?_eq_getElem hlt,Option.map_some]at this
  exact Option.some.inj this
 generalize L[i]=X at *
 generalize L'[i]=Y at *
 obtain ⟨x1,x2,y1,y2⟩:=X
 obtain ⟨z1,z2,w1,w2⟩:=Y
 have e:=v1.trans v2.symm
 unfold prV at e
 simp only[Prod.mk.injEq]at e
 obtain ⟨rfl,rfl⟩:=e
 have a1:lookM Tryz.prog 27 M (elemP uw 2 i)=some (.agg #[x1,x2]):=a1
 have a2:lookM Tryz.prog 27 M (elemP vw 2 i)=some (.agg #[z1,z2]):=a2
 have f1:IsF M x1 x2 y1 y2:=f1
 have f2:IsF M z1 z2 y1 y2:=f2
 have p1:=f1.n.one
 have p2:=f1.d.one
 have p3:=f2.n.one
 have p4:=f2.d.one
 have bn:=f1.bn
 have bd:=f1.bd
 have hf:=A12 @samSt.eq_1 d1 q1 q2 wi nn1 nn2 a1 a2 o1 o2 (A12 o3 o4 o5 o6 n3 n6 s3 s6 p1 p2 p3 p4);refine sF ?_;(repeat' ((first|((with_reducible refine yM ?_);refine kS 26 (sameFrac_ok f1.n f1.d f2.n f2.d (by omega) (by omega) ?_))|((with_reducible refine isE 38 (by decide) ?_);refine dR [(0,[]),(1,[]),(2,[1]),(3,[]),(4,[]),(5,[1,4]),(6,[1,4]),(7,[1,4,6]),(8,[1,4]),(9,[1,4]),(10,[]),(11,[])] (rgL 38 10 []) [] ?_)|refine oB ?_|fail)<;>refine sF ?_<;>try with_reducible exact tT))<;>try clear hf
 exact ⟨q.length-(i+1),samSt M ur us uw vr vs vw (i+1),by omega,le_sub ⟨rfl,rfl,rfl,trivial⟩ ⟨rfl,rfl,trivial⟩ rfl rfl rfl (keepLt0 _),i+1,rfl,by omega,rfl⟩
end
section
variable {M:Mem}{K:AV→Hp→Mem→Prop}{u v:Value}{l1 l2:List Nat}
end
section
variable {M:Mem}{K:AV→Hp→Mem→Prop}{u v:Value}{l1 l2:List Nat}
end
section
variable {M:Mem}{K:AV→Hp→Mem→Prop}{u1 u2:Value}{l1 l2:List Nat}
end
section
variable {M:Mem}{K:AV→Hp→Mem→Prop}
end
theorem exF_eq{x y n d:Nat}(h0:0<y)(hd:0<d)(h:x*d=n*y)(hg:Nat.gcd n d=1)(h1:(ofN n).length≤128)(h2:(ofN d).length≤128):exF x y=(0,n,d):=by
 have hdv:d∣y:=(Nat.Coprime.symm hg).dvd_of_dvd_mul_left ⟨x,by rw[←h,Nat.mul_comm]⟩
 obtain ⟨k,rfl⟩:=hdv
 have hx:x=n*k:=by
  refine Nat.eq_of_mul_eq_mul_right hd ?_
  rw[h];grind
 subst hx
 have hk:0<k:=Nat.pos_of_mul_pos_left h0
 have hgk:Nat.gcd (n*k) (d*k)=k:=by rw[Nat.gcd_mul_right,hg,Nat.one_mul]
 unfold exF
 rw[hgk,Nat.mul_div_cancel _ hk,Nat.mul_div_cancel _ hk,if_pos ⟨h1,h2⟩]
theorem mulF_of{n1 d1 n2 d2:Nat}(h1:chkF (ofN n1) (ofN d1)=true)(h2:chkF (ofN n2) (ofN d2)=true):mulF (ofN n1) (ofN d1) (ofN n2) (ofN d2)=exF (n1*n2) (d1*d2):=by
 unfold mulF;rw[h1,h2,Bool.and_self,if_pos rfl,valN_ofN,valN_ofN,valN_ofN,valN_ofN]
theorem addF_of{n1 d1 n2 d2:Nat}(h1:chkF (ofN n1) (ofN d1)=true)(h2:chkF (ofN n2) (ofN d2)=true):addF (ofN n1) (ofN d1) (ofN n2) (ofN d2)=exF (n1*d2+n2*d1) (d1*d2):=by
 unfold addF;rw[h1,h2,Bool.and_self,if_pos rfl,valN_ofN,valN_ofN,valN_ofN,valN_ofN]
theorem divF_of{n1 d1 n2 d2:Nat}(h1:chkF (ofN n1) (ofN d1)=true)(h2:chkF (ofN n2) (ofN d2)=true)(h0:0<n2):divF (ofN n1) (ofN d1) (ofN n2) (ofN d2)=exF (n1*d2) (n2*d1):=by
 unfold divF;rw[h1,h2,Bool.and_self,if_pos rfl,valN_ofN,valN_ofN,valN_ofN,valN_ofN,if_neg (by omega)]
theorem subF_of{n1 d1 n2 d2:Nat}(h1:chkF (ofN n1) (ofN d1)=true)(h2:chkF (ofN n2) (ofN d2)=true)(h0:n2*d1≤n1*d2):subF (ofN n1) (ofN d1) (ofN n2) (ofN d2)=exF (n1*d2-n2*d1) (d1*d2):=by
 unfold subF;rw[h1,h2,Bool.and_self,if_pos rfl,valN_ofN,valN_ofN,valN_ofN,valN_ofN,if_neg (by omega)]
theorem cmpF_of{n1 d1 n2 d2:Nat}(h1:chkF (ofN n1) (ofN d1)=true)(h2:chkF (ofN n2) (ofN d2)=true):cmpF (ofN n1) (ofN d1) (ofN n2) (ofN d2)=cmpN (n1*d2) (n2*d1):=by
 unfold cmpF;rw[h1,h2,Bool.and_self,if_pos rfl,valN_ofN,valN_ofN,valN_ofN,valN_ofN]
theorem cmpN_le{x y:Nat}(h:x≤y):decide (cmpN x y≤0)=true:=by
 rw[decide_eq_true_eq];unfold cmpN
 split
 ·omega
 ·rw[if_pos (by omega)];omega
set_option exponentiation.threshold 5000
def red(x d:Nat):Nat×Nat:=(x / Nat.gcd x d,d / Nat.gcd x d)
def Sm(x:Nat):Prop:=x<2^4000
theorem Sm.le{x y:Nat}(h:Sm x)(hy:y≤x):Sm y:=Nat.lt_of_le_of_lt hy h
theorem Sm.len{x:Nat}(h:Sm x):(ofN x).length≤128:=ofN_len_le (by
 rw[wN_pow2]
 exact Nat.lt_of_lt_of_le h (Nat.pow_le_pow_right (by decide) (by decide)))
structure RedP (x d:Nat):Prop where
 eq:(red x d).1*d=x*(red x d).2
 gcd:Nat.gcd (red x d).1 (red x d).2=1
 pos:0<(red x d).2
 le1:(red x d).1≤x
 le2:(red x d).2≤d
theorem red_p{x d:Nat}(h:0<d):RedP x d:=by
 have hg:0<Nat.gcd x d:=Nat.gcd_pos_of_pos_right _ h
 refine ⟨?_,Nat.gcd_div_gcd_div_gcd_of_pos_right h,Nat.div_pos (Nat.gcd_le_right x h) hg,Nat.div_le_self _ _,Nat.div_le_self _ _⟩
 unfold red
 have h1:=Nat.div_mul_cancel (Nat.gcd_dvd_left x d)
 have h2:=Nat.div_mul_cancel (Nat.gcd_dvd_right x d)
 generalize x / Nat.gcd x d=a at *
 generalize d / Nat.gcd x d=b at *
 generalize Nat.gcd x d=g at *
 subst h1 h2
 grind
theorem red_num{x d:Nat}(h:0<d)(hx:0<x):0<(red x d).1:=by
 have h1:=(red_p (x:=x) h).eq
 rcases Nat.eq_zero_or_pos (red x d).1 with h0|h0
 ·rw[h0,Nat.zero_mul]at h1
  have:=Nat.mul_pos hx (red_p (x:=x) h).pos
  omega
 ·exact h0
theorem chk_of{n d:Nat}(h1:Sm n)(h2:Sm d)(h0:0<d)(hg:Nat.gcd n d=1):chkF (ofN n) (ofN d)=true:=by
 unfold chkF
 rw[chkN_ofN h1.len,chkN_ofN h2.len,valN_ofN,valN_ofN,hg,decide_eq_false (by omega)]
 rfl
theorem chk_red{x d:Nat}(hx:Sm x)(hd:Sm d)(h0:0<d):chkF (ofN (red x d).1) (ofN (red x d).2)=true:=by
 have h:=red_p (x:=x) h0
 exact chk_of (hx.le h.le1) (hd.le h.le2) h.pos h.gcd
theorem ex_red{a b x d:Nat}(hb:0<b)(hd:0<d)(h:a*d=x*b)(hx:Sm x)(hds:Sm d):exF a b=(0,red x d):=by
 have hr:=red_p (x:=x) hd
 have he:a*(red x d).2=(red x d).1*b:=by
  refine Nat.eq_of_mul_eq_mul_right hd ?_
  calc a*(red x d).2*d=(a*d)*(red x d).2:=by grind
   _=x*b*(red x d).2:=by rw[h]
   _=(x*(red x d).2)*b:=by grind
   _=(red x d).1*d*b:=by rw[hr.eq]
   _=(red x d).1*b*d:=by grind
 rw[exF_eq hb hr.pos he hr.gcd (hx.le hr.le1).len (hds.le hr.le2).len]
theorem red_zero{d:Nat}(h:0<d):red 0 d=(0,1):=by
 unfold red
 rw[Nat.gcd_zero_left,Nat.zero_div,Nat.div_self h]
theorem red_self{d:Nat}(h:0<d):red d d=(1,1):=by
 unfold red
 rw[Nat.gcd_self,Nat.div_self h]
theorem add_red{a x d:Nat}(hd:0<d)(hds:Sm d)(hs:Sm (a+x)):addF (ofN (red a d).1) (ofN (red a d).2) (ofN (red x d).1) (ofN (red x d).2)=(0,red (a+x) d):=by
 have h1:=red_p (x:=a) hd
 have h2:=red_p (x:=x) hd
 rw[addF_of (chk_red (hs.le (by omega)) hds hd) (chk_red (hs.le (by omega)) hds hd)]
 refine ex_red (Nat.mul_pos h1.pos h2.pos) hd ?_ hs hds
 have e1:=h1.eq
 have e2:=h2.eq
 generalize (red a d).1=n1 at *
 generalize (red a d).2=d1 at *
 generalize (red x d).1=n2 at *
 generalize (red x d).2=d2 at *
 calc (n1*d2+n2*d1)*d=(n1*d)*d2+(n2*d)*d1:=by grind
  _=a*d1*d2+x*d2*d1:=by rw[e1,e2]
  _=(a+x)*(d1*d2):=by grind
def lsum:List Nat→Nat
 | []=>0
 | x :: r=>x+lsum r
theorem sumG_red{d:Nat}(hd:0<d)(hds:Sm d):∀(X:List Nat) (a:Nat),Sm (a+lsum X)→sumG (red a d).1 (red a d).2 ((X.map fun x=>red x d).map qFR)=(0,red (a+lsum X) d)
 | [],a,_=>rfl
 | x :: r,a,h=>by
  rw[List.map_cons,List.map_cons,sumG_cons]
  have h1:Sm (a+x):=h.le (by rw[lsum];omega)
  have h2:=add_red (a:=a) (x:=x) hd hds h1
  show (if (addF (ofN (red a d).1) (ofN (red a d).2) (ofN (red x d).1) (ofN (red x d).2)).1=0 then _ else _)=_
  rw[show (qFR (red x d)).l1=ofN (red x d).1 from rfl,show (qFR (red x d)).l2=ofN (red x d).2 from rfl,h2,if_pos rfl,sumG_red hd hds r (a+x) (by rw[Nat.add_assoc];exact h),Nat.add_assoc]
  rfl
theorem lsum_mem:∀{X:List Nat} {x:Nat},x∈X→x≤lsum X
 | y :: r,x,h=>by
  rw[lsum]
  rcases List.mem_cons.1 h with h|h
  ·omega
  ·have:=lsum_mem h;omega
theorem sumF_red{d:Nat}(hd:0<d)(hds:Sm d){X:List Nat}(hs:Sm (lsum X)):sumF ((X.map fun x=>red x d).map qFR)=(0,red (lsum X) d):=by
 unfold sumF
 rw[if_pos (by
  rw[List.all_eq_true]
  intro x hx
  obtain ⟨q,hq,rfl⟩:=List.mem_map.1 hx
  obtain ⟨y,hy,rfl⟩:=List.mem_map.1 hq
  exact chk_red (hs.le (lsum_mem hy)) hds hd)]
 have:=sumG_red hd hds X 0 (by rw[Nat.zero_add];exact hs)
 rw[red_zero hd,Nat.zero_add]at this
 exact this
theorem div_red{x s d:Nat}(hd:0<d)(hs0:0<s)(hds:Sm d)(hx:Sm x)(hs:Sm s):divF (ofN (red x d).1) (ofN (red x d).2) (ofN (red s d).1) (ofN (red s d).2)=(0,red x s):=by
 have h1:=red_p (x:=x) hd
 have h2:=red_p (x:=s) hd
 have h3:=red_num hd hs0
 rw[divF_of (chk_red hx hds hd) (chk_red hs hds hd) h3]
 refine ex_red (Nat.mul_pos h3 h1.pos) hs0 ?_ hx hs
 have e1:=h1.eq
 have e2:=h2.eq
 generalize (red x d).1=n1 at *
 generalize (red x d).2=d1 at *
 generalize (red s d).1=n2 at *
 generalize (red s d).2=d2 at *
 refine Nat.eq_of_mul_eq_mul_right hd ?_
 calc n1*d2*s*d=(n1*d)*(s*d2):=by grind
  _=x*d1*(n2*d):=by rw[e1,e2]
  _=x*(n2*d1)*d:=by grind
theorem divG_red{s d:Nat}(hd:0<d)(hs0:0<s)(hds:Sm d)(hs:Sm s):∀(X:List Nat),(∀x∈X,x≤s)→divG (red s d).1 (red s d).2 ((X.map fun x=>red x d).map qFR)=(0,X.map fun x=>red x s)
 | [],_=>rfl
 | x :: r,h=>by
  have ih:=divG_red hd hs0 hds hs r fun y hy=>h y (List.mem_cons_of_mem _ hy)
  have hx:=h x (List.mem_cons_self ..)
  rw[List.map_cons,List.map_cons,divG_cons,ih,show (qFR (red x d)).l1=ofN (red x d).1 from rfl,show (qFR (red x d)).l2=ofN (red x d).2 from rfl,div_red hd hs0 hds (hs.le hx) hs]
  rfl
theorem normQ_red{d:Nat}(hd:0<d)(hds:Sm d){X:List Nat}(hs:Sm (lsum X))(h0:0<lsum X):normQ (X.map fun x=>red x d)=(0,X.map fun x=>red x (lsum X)):=by
 unfold normQ normF
 rw[sumF_red hd hds hs,if_pos rfl]
 exact divG_red hd h0 hds hs X fun x hx=>lsum_mem hx
structure BX (l:List Int) (s:List Nat) (q:List (Nat×Nat)) (b:Nat):Prop where
 cl:chkL l=true
 st:∃m:Int,(m=1∨m=2)∧s=setsL l m
 ex:∃X:List Nat,q=(X.map fun x=>red x (lsum X))∧X.length=s.length∧(∀x∈X,0<x)∧0<lsum X∧lsum X≤b
theorem cmp_11:cmpF (ofN 1) (ofN 1) (ofN 1) (ofN 1)=0:=by decide +kernel
theorem BX.chk{l:List Int}{s:List Nat}{q:List (Nat×Nat)}{b:Nat}(h:BX l s q b)(hb:Sm b){L:List FR}(hL:L.map prV=q.map fun q=>(ofN q.1,ofN q.2)):chkB l (s.map fun (x:Nat)=>(x:Int)) L=true:=by
 obtain ⟨m,hm,hs⟩:=h.st
 obtain ⟨X,hq,hn,hx,h0,hle⟩:=h.ex
 have hsm:=hb.le hle
 have hlq:L.length=q.length:=by have:=congrArg List.length hL;simpa using this
 have hLq:L.map prV=(q.map qFR).map prV:=by rw[hL,List.map_map];rfl
 have h1:chkS l (s.map fun (x:Nat)=>(x:Int))=true:=by
  unfold chkS
  rw[Bool.or_eq_true,decide_eq_true_eq,decide_eq_true_eq,hs]
  rcases hm with rfl|rfl
  ·exact .inl rfl
  ·exact .inr rfl
 have h2:L.all (fun x=>posF x.l1 x.l2)=true:=by
  rw[all_cong posF L _ hLq,hq,List.all_eq_true]
  intro x hx'
  obtain ⟨p,hp,rfl⟩:=List.mem_map.1 hx'
  obtain ⟨y,hy,rfl⟩:=List.mem_map.1 hp
  show posF (ofN (red y (lsum X)).1) (ofN (red y (lsum X)).2)=true
  unfold posF
  rw[chk_red (hsm.le (lsum_mem hy)) hsm h0,Bool.true_and,decide_eq_true_eq]
  have:=red_num h0 (hx y hy)
  rcases Nat.eq_zero_or_pos (ofN (red y (lsum X)).1).length with e|e
  ·have e2:=(nil_iff (l:=ofN (red y (lsum X)).1) (by rw[valN_ofN])).1 e
   rw[valN_ofN]at e2;omega
  ·exact e
 have h3:oneS L=true:=by
  unfold oneS
  rw[sumF_cong hLq,hq,sumF_red h0 hsm hsm,red_self h0,cmp_11]
  rfl
 unfold chkB
 rw[h.cl,h1,h2,h3,List.length_map,hlq,hq,List.length_map,hn,decide_eq_true rfl]
 rfl
structure Cha (a:LP) (n d:Nat):Prop where
 eq:a=(ofN n,ofN d)
 n0:0<n
 lt:n<d
 le:d≤1000
 gcd:Nat.gcd n d=1
theorem sm1000{n:Nat}(h:n≤1000000000000):Sm n:=Nat.lt_of_le_of_lt h (by
 have:2^40≤2^4000:=Nat.pow_le_pow_right (by decide) (by decide)
 omega)
theorem Cha.chk{a:LP}{n d:Nat}(h:Cha a n d):chkF (ofN n) (ofN d)=true:=by
 have:=h.lt
 have:=h.le
 exact chk_of (sm1000 (by omega)) (sm1000 (by omega)) (by omega) h.gcd
theorem gcd_comp{n d:Nat}(h:n≤d)(hg:Nat.gcd n d=1):Nat.gcd (d-n) d=1:=by
 rw[Nat.gcd_comm,Nat.gcd_comm]at *
 have h1:Nat.gcd (d-n) d∣n:=by
  have h2:=Nat.gcd_dvd_left (d-n) d
  have h3:=Nat.gcd_dvd_right (d-n) d
  have:=Nat.dvd_sub h3 h2
  rwa[show d-(d-n)=n by omega]at this
 have h4:Nat.gcd (d-n) d∣Nat.gcd n d:=Nat.dvd_gcd h1 (Nat.gcd_dvd_right _ _)
 first
  | (rw[hg]at h4;exact Nat.dvd_one.1 h4)
  | (rw[Nat.gcd_comm]at hg;rw[hg]at h4;exact Nat.dvd_one.1 h4)
theorem Cha.oth{a:LP}{n d:Nat}(h:Cha a n d):Cha (ofN (othF a.1 a.2).1,ofN (othF a.1 a.2).2) (d-n) d:=by
 have h1:=h.lt
 have h2:=h.le
 have h0:=h.n0
 have hg:=gcd_comp (Nat.le_of_lt h1) h.gcd
 have hs:subF (ofN 1) (ofN 1) (ofN n) (ofN d)=(0,d-n,d):=by
  rw[subF_of (by decide +kernel) h.chk (by omega),Nat.one_mul,Nat.mul_one]
  exact exF_eq (by omega) (by omega) rfl hg (sm1000 (by omega)).len (sm1000 (by omega)).len
 refine ⟨?_,by omega,by omega,h2,hg⟩
 rw[h.eq]
 unfold othF
 rw[hs]
def opN(p:Nat×Nat):LP:=(ofN p.1,ofN p.2)
def OkN(p:Nat×Nat):Prop:=0<p.1∧p.1<p.2∧p.2≤1000∧Nat.gcd p.1 p.2=1
theorem Cha.okn{a:LP}{n d:Nat}(h:Cha a n d):OkN (n,d)∧a=opN (n,d):=⟨⟨h.n0,h.lt,h.le,h.gcd⟩,h.eq⟩
theorem OkN.cha{p:Nat×Nat}(h:OkN p):Cha (opN p) p.1 p.2:=⟨rfl,h.1,h.2.1,h.2.2.1,h.2.2.2⟩
def pn:List (Nat×Nat)→Nat
 | []=>1
 | p :: r=>p.1*pn r
def pd:List (Nat×Nat)→Nat
 | []=>1
 | p :: r=>p.2*pd r
theorem pn_pos:∀{N:List (Nat×Nat)},(∀p∈N,OkN p)→0<pn N
 | [],_=>by decide
 | p :: r,h=>Nat.mul_pos (h p (List.mem_cons_self ..)).1 (pn_pos fun q hq=>h q (List.mem_cons_of_mem _ hq))
theorem pd_pos:∀{N:List (Nat×Nat)},(∀p∈N,OkN p)→0<pd N
 | [],_=>by decide
 | p :: r,h=>Nat.mul_pos (by have:=h p (List.mem_cons_self ..);have:=this.1;have:=(h p (List.mem_cons_self ..)).2.1;omega) (pd_pos fun q hq=>h q (List.mem_cons_of_mem _ hq))
theorem pn_le:∀{N:List (Nat×Nat)},(∀p∈N,OkN p)→pn N≤pd N
 | [],_=>by decide
 | p :: r,h=>Nat.mul_le_mul (Nat.le_of_lt (h p (List.mem_cons_self ..)).2.1) (pn_le fun q hq=>h q (List.mem_cons_of_mem _ hq))
theorem pd_le:∀{N:List (Nat×Nat)},(∀p∈N,OkN p)→pd N≤1000^N.length
 | [],_=>by decide
 | p :: r,h=>by
  rw[pd,List.length_cons,Nat.pow_succ,Nat.mul_comm]
  exact Nat.mul_le_mul (pd_le fun q hq=>h q (List.mem_cons_of_mem _ hq)) (h p (List.mem_cons_self ..)).2.2.1
theorem mul_redN{x d:Nat}{p:Nat×Nat}{y e:Nat}(hp:OkN p)(hd:0<d)(hx:Sm x)(hds:Sm d)(he:0<e)(h:x*p.1*e=y*(d*p.2))(hy:Sm y)(hes:Sm e) :
  mulF (ofN (red x d).1) (ofN (red x d).2) (opN p).1 (opN p).2=(0,red y e):=by
 have h1:=red_p (x:=x) hd
 have h0:=hp.1
 have h2:=hp.2.1
 unfold opN
 rw[mulF_of (chk_red hx hds hd) hp.cha.chk]
 refine ex_red (Nat.mul_pos h1.pos (by omega)) he ?_ hy hes
 have e1:=h1.eq
 generalize (red x d).1=n1 at *
 generalize (red x d).2=d1 at *
 refine Nat.eq_of_mul_eq_mul_right hd ?_
 calc n1*p.1*e*d=(n1*d)*p.1*e:=by grind
  _=(x*p.1*e)*d1:=by rw[e1];grind
  _=y*(d*p.2)*d1:=by rw[h]
  _=y*(d1*p.2)*d:=by grind
theorem prodV_red:∀(N:List (Nat×Nat)) (n d:Nat),(∀p∈N,OkN p)→0<d→Sm (n*pn N)→Sm (d*pd N)→prodV (red n d).1 (red n d).2 (N.map opN)=(0,red (n*pn N) (d*pd N))
 | [],n,d,_,_,_,_=>by rw[pn,pd,Nat.mul_one,Nat.mul_one];rfl
 | p :: r,n,d,h,hd,hn,hs=>by
  have hp:=h p (List.mem_cons_self ..)
  have h0:=hp.1
  have h2:=hp.2.1
  have hr:=fun q hq=>h q (List.mem_cons_of_mem _ hq)
  have p1:=pn_pos hr
  have p2:=pd_pos hr
  rw[pn,←Nat.mul_assoc]at hn
  rw[pd,←Nat.mul_assoc]at hs
  have q1:Sm (n*p.1):=hn.le (Nat.le_mul_of_pos_right _ p1)
  have q2:Sm (d*p.2):=hs.le (Nat.le_mul_of_pos_right _ p2)
  have hm:=mul_redN (x:=n) (d:=d) (y:=n*p.1) (e:=d*p.2) hp hd (q1.le (Nat.le_mul_of_pos_right _ h0)) (q2.le (Nat.le_mul_of_pos_right _ (by omega))) (Nat.mul_pos hd (by omega)) rfl q1 q2
  rw[List.map_cons,prodV,hm,if_pos rfl,prodV_red r _ _ hr (Nat.mul_pos hd (by omega)) hn hs,pn,pd,Nat.mul_assoc,Nat.mul_assoc]
def facN(s:Nat):Nat→List (Nat×Nat)→List (Nat×Nat)
 | _,[]=>[]
 | j,p :: r=>(if s.testBit j then p else (p.2-p.1,p.2)) :: facN s (j+1) r
theorem OkN.oth{p:Nat×Nat}(h:OkN p):OkN (p.2-p.1,p.2):=(h.cha.oth).okn.1
theorem facN_ok(s:Nat):∀(N:List (Nat×Nat)) (j:Nat),(∀p∈N,OkN p)→∀p∈facN s j N,OkN p
 | [],_,_,p,h=>by cases h
 | q :: r,j,hN,p,h=>by
  rw[facN]at h
  rcases List.mem_cons.1 h with h|h
  ·rw[h]
   have:=hN q (List.mem_cons_self ..)
   split
   ·exact this
   ·exact this.oth
  ·exact facN_ok s r (j+1) (fun q hq=>hN q (List.mem_cons_of_mem _ hq)) p h
theorem facN_pd(s:Nat):∀(N:List (Nat×Nat)) (j:Nat),pd (facN s j N)=pd N
 | [],_=>rfl
 | q :: r,j=>by
  rw[facN,pd,pd,facN_pd s r]
  split<;>rfl
theorem facG_N(s:Nat):∀(P:List FR) (N:List (Nat×Nat)) (j:Nat),P.map prV=N.map opN→(∀p∈N,OkN p)→facG s j P=(facN s j N).map opN
 | [],[],_,_,_=>rfl
 | [],_ :: _,_,h,_=>by simp at h
 | _ :: _,[],_,h,_=>by simp at h
 | x :: r,p :: q,j,h,hN=>by
  rw[List.map_cons,List.map_cons,List.cons.injEq]at h
  have hp:=hN p (List.mem_cons_self ..)
  have h1:x.l1=ofN p.1∧x.l2=ofN p.2:=Prod.mk.injEq ..▸h.1
  rw[facG,facN,List.map_cons,facG_N s r q (j+1) h.2 fun q hq=>hN q (List.mem_cons_of_mem _ hq)]
  congr 1
  unfold facE
  split
  ·exact h.1
  ·have:=hp.cha.oth.eq
   rw[h1.1,h1.2]
   exact this
theorem newW_red{P:List FR}{N:List (Nat×Nat)}(h:P.map prV=N.map opN)(hN:∀p∈N,OkN p)(hl:N.length≤8)(s:Nat):(prodV 1 1 (facG s 0 P)).1=0∧newW P s=red (pn (facN s 0 N)) (pd N):=by
 have hok:=facN_ok s N 0 hN
 have h1:pd N≤1000^8:=Nat.le_trans (pd_le hN) (Nat.pow_le_pow_right (by decide) hl)
 have h8:Sm (1000^8):=Nat.lt_of_lt_of_le (show 1000^8<2^100 by decide) (Nat.pow_le_pow_right (by decide) (by decide))
 have h2:=pn_le hok
 rw[facN_pd]at h2
 have hv:=prodV_red (facN s 0 N) 1 1 hok (by decide) (h8.le (by omega)) (h8.le (by rw[facN_pd];omega))
 rw[red_self (by decide),←facG_N s P N 0 h hN,Nat.one_mul,Nat.one_mul,facN_pd]at hv
 refine ⟨by rw[hv],?_⟩
 have hI:=prodV_I _ _ _ (show (prodV 1 1 (facG s 0 P)).1=0 by rw[hv])
 rw[hv]at hI
 exact (congrArg Prod.snd hI).symm
theorem cmpF_N{a b:Nat×Nat}(h1:OkN a)(h2:OkN b):cmpF (ofN a.1) (ofN a.2) (ofN b.1) (ofN b.2)=cmpN (a.1*b.2) (b.1*a.2):=cmpF_of h1.cha.chk h2.cha.chk
theorem cmpF_1{a:Nat×Nat}(h1:OkN a):cmpF (ofN a.1) (ofN a.2) (ofN 1) (ofN 1)=-1:=by
 rw[cmpF_of h1.cha.chk (by decide +kernel),Nat.mul_one,Nat.one_mul]
 exact cmpN_lt h1.2.1
theorem OkN.chaF{a:Nat×Nat}(h:OkN a):chaF (ofN a.1) (ofN a.2)=true:=by
 unfold Sx.chaF
 have h3:=h.2.2.1
 have hl:(ofN a.2).length≤128:=(sm1000 (by omega)).len
 rw[h.cha.chk,cmpF_1 h]
 unfold cmpR
 rw[chkN_ofN hl,chkN_ofN (sm1000 (by decide)).len,valN_ofN,valN_ofN,Bool.and_self,if_pos rfl,cmpN_le (by omega)]
 rfl
theorem ofN_pos'{n:Nat}(h:0<n):decide (0<(ofN n).length)=true:=by
 rw[decide_eq_true_eq]
 rcases Nat.eq_zero_or_pos (ofN n).length with e|e
 ·have e2:=(nil_iff (l:=ofN n) (by rw[valN_ofN])).1 e
  rw[valN_ofN]at e2;omega
 ·exact e
theorem OkN.innF{a:Nat×Nat}(h:OkN a):innF (ofN a.1) (ofN a.2)=true:=by
 unfold Sx.innF
 rw[h.chaF,ofN_pos' h.1,cmpF_1 h]
 rfl
theorem noiF_N{a b:Nat×Nat}(h1:OkN a)(h2:OkN b)(h:a.1*b.2<b.1*a.2):noiF (ofN a.1) (ofN a.2) (ofN b.1) (ofN b.2)=true:=by
 unfold noiF
 rw[h1.chaF,h2.chaF,ofN_pos' h1.1,cmpF_N h1 h2,cmpF_1 h2,cmpN_lt h]
 rfl
theorem setsL_one{l:List Int}{m:Int}(hc:chkL l=true)(hm:m=1∨m=2):1∈setsL l m:=by
 have hl:=chk_len hc
 have he:setsE l m=0:=by
  unfold setsE
  rw[if_pos hc,if_pos]
  rw[decide_eq_true_eq];omega
 unfold setsL
 rw[if_pos he]
 unfold hyps hypTo
 rw[List.mem_filter,List.mem_range]
 have h2:2^1≤2^l.length:=Nat.pow_le_pow_right (by decide) hl.1
 exact ⟨by omega,by rcases hm with rfl|rfl<;>rfl⟩
theorem setsL_len{l:List Int}{m:Int}(hc:chkL l=true):(setsL l m).length≤256:=by
 unfold setsL
 split
 ·have:=hypTo_len m.toNat (2^l.length)
  have h2:2^l.length≤2^8:=Nat.pow_le_pow_right (by decide) (chk_len hc).2
  unfold hyps
  omega
 ·exact Nat.zero_le _
theorem lsum_le{b:Nat}:∀{X:List Nat},(∀x∈X,x≤b)→lsum X≤X.length*b
 | [],_=>Nat.zero_le _
 | x :: r,h=>by
  rw[lsum,List.length_cons,Nat.succ_mul]
  have:=h x (List.mem_cons_self ..)
  have:=lsum_le (b:=b) fun y hy=>h y (List.mem_cons_of_mem _ hy)
  omega
def b0:Nat:=256*1000^8
theorem newB_law{l:List Int}{P:List FR}{N:List (Nat×Nat)}{m:Int}(hc:chkL l=true)(hm:m=1∨m=2)(hl:P.length=l.length)(h:P.map prV=N.map opN)(hN:∀p∈N,OkN p) :
  ∃q,newB l P m=⟨0,l,setsL l m,q⟩∧BX l (setsL l m) q b0:=by
 have hnl:N.length=P.length:=by have:=congrArg List.length h;simpa using this.symm
 have hl8:=(chk_len hc).2
 have he:setsE l m=0:=by
  unfold setsE
  rw[if_pos hc,if_pos]
  rw[decide_eq_true_eq];omega
 have hin:P.all (fun x=>innF x.l1 x.l2)=true:=by
  rw[List.all_eq_true]
  intro x hx
  have:prV x∈N.map opN:=by rw[←h];exact List.mem_map_of_mem hx
  obtain ⟨p,hp,e⟩:=List.mem_map.1 this
  have h1:ofN p.1=x.l1∧ofN p.2=x.l2:=Prod.mk.injEq ..▸e
  rw[←h1.1,←h1.2]
  exact (hN p hp).innF
 have hw:(setsL l m).map (newW P)=((setsL l m).map fun s=>pn (facN s 0 N)).map fun x=>red x (pd N):=by
  rw[List.map_map]
  exact List.map_congr_left fun s _=>(newW_red h hN (by omega) s).2
 have h1:pd N≤1000^8:=Nat.le_trans (pd_le hN) (Nat.pow_le_pow_right (by decide) (by omega))
 have hb:lsum ((setsL l m).map fun s=>pn (facN s 0 N))≤b0:=by
  refine Nat.le_trans (lsum_le (b:=1000^8) fun x hx=>?_) ?_
  ·obtain ⟨s,_,rfl⟩:=List.mem_map.1 hx
   have h2:=pn_le (facN_ok s N 0 hN)
   rw[facN_pd]at h2
   omega
  ·rw[List.length_map]
   exact Nat.mul_le_mul_right _ (setsL_len hc)
 have hbs:Sm b0:=Nat.lt_of_lt_of_le (show 256*1000^8<2^100 by decide) (Nat.pow_le_pow_right (by decide) (by decide))
 have hpos:∀x∈(setsL l m).map fun s=>pn (facN s 0 N),0<x:=fun x hx=>by
  obtain ⟨s,_,rfl⟩:=List.mem_map.1 hx
  exact pn_pos (facN_ok s N 0 hN)
 have h0:0<lsum ((setsL l m).map fun s=>pn (facN s 0 N)):=by
  have hx:pn (facN 1 0 N)∈(setsL l m).map fun s=>pn (facN s 0 N):=List.mem_map.2 ⟨1,setsL_one hc hm,rfl⟩
  exact Nat.lt_of_lt_of_le (hpos _ hx) (lsum_mem hx)
 have hpd:=pd_pos hN
 refine ⟨_,?_,⟨hc,⟨m,hm,rfl⟩,⟨_,rfl,List.length_map ..,hpos,h0,hb⟩⟩⟩
 unfold newB
 rw[if_pos he,if_pos hl,if_pos hin,hw,normQ_red hpd (hbs.le (Nat.le_trans h1 (by decide))) (hbs.le hb) h0]
 rfl
def mulX(eff:Nat)(f g:Nat×Nat):List Nat→List Nat→List Nat
 | x :: r,s :: t=>(if eff &&& s=0 then x*f.1*g.2 else x*g.1*f.2) :: mulX eff f g r t
 | _,_=>[]
theorem mulX_len{eff:Nat}{f g:Nat×Nat}:∀{X S:List Nat},X.length=S.length→(mulX eff f g X S).length=S.length
 | [],[],_=>rfl
 | x :: r,s :: t,h=>by rw[mulX,List.length_cons,List.length_cons,mulX_len (by simpa using h)]
theorem mulX_pos{eff:Nat}{f g:Nat×Nat}(hf:OkN f)(hg:OkN g):∀{X S:List Nat},(∀x∈X,0<x)→∀y∈mulX eff f g X S,0<y
 | [],_,_,y,h=>by rw[mulX]at h;cases h;simp
 | _ :: _,[],_,y,h=>by rw[mulX]at h;cases h;simp
 | x :: r,s :: t,hX,y,h=>by
  rw[mulX]at h
  have hx:=hX x (List.mem_cons_self ..)
  have f1:=hf.1
  have f2:=hf.2.1
  have g1:=hg.1
  have g2:=hg.2.1
  rcases List.mem_cons.1 h with h|h
  ·rw[h]
   split
   ·exact Nat.mul_pos (Nat.mul_pos hx f1) (by omega)
   ·exact Nat.mul_pos (Nat.mul_pos hx g1) (by omega)
  ·exact mulX_pos hf hg (fun z hz=>hX z (List.mem_cons_of_mem _ hz)) y h
theorem OkN.le1{f:Nat×Nat}(h:OkN f):f.1≤1000∧f.2≤1000:=⟨by have:=h.2.1;have:=h.2.2.1;omega,h.2.2.1⟩
theorem mul_le6{x a b:Nat}(ha:a≤1000)(hb:b≤1000):x*a*b≤x*1000000:=by
 rw[Nat.mul_assoc]
 exact Nat.mul_le_mul_left _ (Nat.le_trans (Nat.mul_le_mul ha hb) (by decide))
theorem mulX_le{eff:Nat}{f g:Nat×Nat}(hf:OkN f)(hg:OkN g):∀{X S:List Nat},lsum (mulX eff f g X S)≤lsum X*1000000
 | [],_=>by rw[mulX]<;>simp[lsum]
 | _ :: _,[]=>by rw[mulX]<;>simp[lsum]
 | x :: r,s :: t=>by
  rw[mulX,lsum,lsum,Nat.add_mul]
  have ih:=mulX_le (eff:=eff) hf hg (X:=r) (S:=t)
  have h1:=mul_le6 (x:=x) hf.le1.1 hg.le1.2
  have h2:=mul_le6 (x:=x) hg.le1.1 hf.le1.2
  split<;>omega
theorem updL_law{eff s0:Nat}{f g:Nat×Nat}(hf:OkN f)(hg:OkN g)(h0:0<s0)(hsm:Sm (s0*1000000)):∀(X S:List Nat) (L:List FR),X.length=S.length→(∀x∈X,x≤s0)→L.map prV=(X.map fun x=>red x s0).map (fun q=>(ofN q.1,ofN q.2))→
  updL L S eff (opN f) (opN g)=(0,(mulX eff f g X S).map fun x=>red x (s0*f.2*g.2))
 | [],[],[],_,_,_=>rfl
 | [],[],_ :: _,_,_,h=>by simp at h
 | _ :: _,_,[],_,_,h=>by simp at h
 | [],_ :: _,_,h,_,_=>by simp at h
 | _ :: _,[],_,h,_,_=>by simp at h
 | x :: r,s :: t,y :: L,hl,hX,h=>by
  have f1:=hf.1
  have f2:=hf.2.1
  have g1:=hg.1
  have g2:=hg.2.1
  rw[List.map_cons,List.map_cons,List.map_cons,List.cons.injEq]at h
  have h1:y.l1=ofN (red x s0).1∧y.l2=ofN (red x s0).2:=Prod.mk.injEq ..▸h.1
  have ih:=updL_law (eff:=eff) hf hg h0 hsm r t L (by simpa using hl) (fun z hz=>hX z (List.mem_cons_of_mem _ hz)) h.2
  have hx:=hX x (List.mem_cons_self ..)
  have hs0:Sm s0:=hsm.le (by omega)
  have he:Sm (s0*f.2*g.2):=hsm.le (mul_le6 hf.le1.2 hg.le1.2)
  have he0:0<s0*f.2*g.2:=Nat.mul_pos (Nat.mul_pos h0 (by omega)) (by omega)
  unfold updL at ih ⊢
  rw[List.zip_cons_cons,mapG_cons,ih,mulX,List.map_cons]
  have key:updF eff (opN f) (opN g) (y,s)=(0,red (if eff &&& s=0 then x*f.1*g.2 else x*g.1*f.2) (s0*f.2*g.2)):=by
   unfold updF facU
   simp only[h1.1,h1.2]
   have hxs:x*1000000≤s0*1000000:=Nat.mul_le_mul_right _ hx
   split
   ·exact mul_redN hf h0 (hs0.le hx) hs0 he0 (by grind) (hsm.le (Nat.le_trans (mul_le6 hf.le1.1 hg.le1.2) hxs)) he
   ·exact mul_redN hg h0 (hs0.le hx) hs0 he0 (by grind) (hsm.le (Nat.le_trans (mul_le6 hg.le1.1 hf.le1.2) hxs)) he
  rw[key]
  rfl
theorem upd_law{l:List Int}{s:List Nat}{q:List (Nat×Nat)}{b eff:Nat}{f g:Nat×Nat}{L:List FR}(h:BX l s q b)(hf:OkN f)(hg:OkN g)(hb:Sm (b*1000000))(hL:L.map prV=q.map fun q=>(ofN q.1,ofN q.2)) :
  ∃q',thenN l s (updL L s eff (opN f) (opN g))=⟨0,l,s,q'⟩∧BX l s q' (b*1000000):=by
 obtain ⟨X,hq,hn,hx,h0,hle⟩:=h.ex
 have hs:Sm (lsum X*1000000):=hb.le (Nat.mul_le_mul_right _ hle)
 rw[hq]at hL
 have hu:=updL_law (eff:=eff) hf hg h0 hs X s L hn (fun x hx=>lsum_mem hx) hL
 have hpos:=mulX_pos (eff:=eff) (S:=s) hf hg hx
 have hmle:=mulX_le (eff:=eff) hf hg (X:=X) (S:=s)
 have hml:=mulX_len (eff:=eff) (f:=f) (g:=g) hn
 have hne:0<(mulX eff f g X s).length:=by
  rw[hml,←hn]
  cases X with
  | nil=>exact absurd h0 (by decide)
  | cons x r=>simp
 have h0':0<lsum (mulX eff f g X s):=by
  cases hm:mulX eff f g X s with
  | nil=>rw[hm]at hne;exact absurd hne (by decide)
  | cons y r=>
   have:=hpos y (by rw[hm];exact List.mem_cons_self ..)
   rw[lsum];omega
 have f1:=hf.1
 have f2:=hf.2.1
 have g2:=hg.2.1
 have he0:0<lsum X*f.2*g.2:=Nat.mul_pos (Nat.mul_pos h0 (by omega)) (by omega)
 refine ⟨_,?_,⟨h.cl,h.st,⟨_,rfl,hml,hpos,h0',Nat.le_trans hmle (Nat.mul_le_mul_right _ hle)⟩⟩⟩
 unfold thenN
 rw[hu,if_pos rfl,normQ_red he0 (hs.le (mul_le6 hf.le1.2 hg.le1.2)) (hs.le hmle) h0']
 rfl
def outN(failed:Bool)(a:Nat×Nat):Nat×Nat:=if failed then a else (a.2-a.1,a.2)
theorem outF_N{failed:Bool}{a:Nat×Nat}(h:OkN a):outF failed (opN a)=opN (outN failed a):=by
 cases failed with
 | true=>rfl
 | false=>exact h.cha.oth.eq
theorem OkN.out{failed:Bool}{a:Nat×Nat}(h:OkN a):OkN (outN failed a):=by
 cases failed with
 | true=>exact h
 | false=>exact h.oth
theorem updL_cong{eff:Nat}{fl dt:LP}:∀(L L':List FR) (S:List Nat),L.map prV=L'.map prV→updL L S eff fl dt=updL L' S eff fl dt
 | [],[],_,_=>rfl
 | [],_ :: _,_,h=>by simp at h
 | _ :: _,[],_,h=>by simp at h
 | _ :: _,_ :: _,[],_=>rfl
 | x :: r,y :: t,s :: S,h=>by
  rw[List.map_cons,List.map_cons,List.cons.injEq]at h
  have h1:x.l1=y.l1∧x.l2=y.l2:=Prod.mk.injEq ..▸h.1
  have ih:=updL_cong (eff:=eff) (fl:=fl) (dt:=dt) r t S h.2
  unfold updL at ih ⊢
  rw[List.zip_cons_cons,List.zip_cons_cons,mapG_cons,mapG_cons,ih]
  unfold updF
  simp only[h1.1,h1.2]
theorem toN_map(s:List Nat):toN (s.map fun (x:Nat)=>(x:Int))=s:=by
 unfold toN
 rw[List.map_map]
 exact List.map_id'' (fun x=>rfl) _
theorem BX.mono{l:List Int}{s:List Nat}{q:List (Nat×Nat)}{b c:Nat}(h:BX l s q b)(hc:b≤c):BX l s q c:=by
 obtain ⟨X,h1,h2,h3,h4,h5⟩:=h.ex
 exact ⟨h.cl,h.st,X,h1,h2,h3,h4,Nat.le_trans h5 hc⟩
theorem BX.upd{l:List Int}{s:List Nat}{q:List (Nat×Nat)}{b:Nat}{f g:Nat×Nat}{pool:Int}{failed:Bool}(h:BX l s q b)(hf:OkN f)(hg:OkN g)(hfg:f.1*g.2<g.1*f.2)(hb:Sm (b*1000000))(hp:setB l pool=true) :
  ∃q',BX l s q' (b*1000000)∧∀L:List FR,L.map prV=q.map (fun q=>(ofN q.1,ofN q.2))→updB l (s.map fun (x:Nat)=>(x:Int)) L (opN f) (opN g) pool failed=⟨0,l,s,q'⟩:=by
 have hc:(q.map qFR).map prV=q.map fun q=>(ofN q.1,ofN q.2):=by rw[List.map_map];rfl
 obtain ⟨q',h1,h2⟩:=upd_law (eff:=effN l pool.toNat) h (hf.out (failed:=failed)) (hg.out (failed:=failed)) hb hc
 refine ⟨q',h2,fun L hL=>?_⟩
 have hk:=h.chk (hb.le (by omega)) hL
 have hn:noiF (opN f).1 (opN f).2 (opN g).1 (opN g).2=true:=noiF_N hf hg hfg
 unfold updB
 rw[hk,hn,Bool.and_self,if_pos rfl,if_pos hp,toN_map,outF_N hf,outF_N hg,updL_cong L (q.map qFR) s (hL.trans hc.symm),h1]
theorem BX.len{l:List Int}{s:List Nat}{q:List (Nat×Nat)}{b:Nat}(h:BX l s q b):l.length≤8∧s.length≤256∧q.length=s.length∧(∀x∈s,x<256):=by
 obtain ⟨m,hm,rfl⟩:=h.st
 obtain ⟨X,h1,h2,_⟩:=h.ex
 refine ⟨(chk_len h.cl).2,setsL_len h.cl,by rw[h1,List.length_map,h2],fun x hx=>?_⟩
 have:=(hI_ok h.cl m).2 x
 rw[toN_hI]at this
 exact this hx
theorem smB{j:Nat}(h:j≤10):Sm (b0*1000000^j):=by
 have h1:1000000^j≤1000000^10:=Nat.pow_le_pow_right (by decide) h
 have h2:b0*1000000^j≤b0*1000000^10:=Nat.mul_le_mul_left _ h1
 exact Nat.lt_of_le_of_lt h2 (Nat.lt_of_lt_of_le (show b0*1000000^10<2^400 by decide) (Nat.pow_le_pow_right (by decide) (by decide)))
end Go.Proofs.YtbclgnojcnkehaaGreat.Sx
namespace Go.Proofs.YtbclgnojcnkehaaGreat.Sx
set_option linter.unusedVariables false
open Go Go.RowKit Go.ChangeShapes Go.WideShapes Go.ChangeAt
section
variable {H:Type}{enc:TypeId×Value→H}{P:Program}{W:World}{base:Nat}{spare:Nat→Bool}{held:Bool}
theorem mem_wAll{e:TypeId}{n:Nat}:∀{l:List (DataW H)} {d:DataW H},d∈l→n∈d.weights P e→n∈DataW.weightsAll P e l
 | [],_,h,_=>by simp at h
 | x :: r,d,h,hn=>by
  simp only[DataW.weightsAll,List.mem_append]
  rcases List.mem_cons.1 h with rfl|h
  ·exact .inl hn
  ·exact .inr (mem_wAll h hn)
theorem mem_wEach{n:Nat}:∀{ts:List TypeId} {ds:List (DataW H)} {j:Nat} {t:TypeId} {d:DataW H},ts[j]? = some t→ds[j]? = some d→n∈d.weights P t→n∈DataW.weightsEach P ts ds
 | t0 :: ts,d0 :: ds,0,t,d,ht,hd,hn=>by
  simp only[List.getElem?_cons_zero,Option.some.injEq]at ht hd
  subst ht;subst hd
  simp only[DataW.weightsEach,List.mem_append]
  exact .inl hn
 | t0 :: ts,d0 :: ds,j+1,t,d,ht,hd,hn=>by
  simp only[List.getElem?_cons_succ]at ht hd
  simp only[DataW.weightsEach,List.mem_append]
  exact .inr (mem_wEach ht hd hn)
 | [],_,_,_,_,ht,_,_=>by simp at ht
 | _ :: _,[],_,_,_,_,hd,_=>by simp at hd
def small(P:Program)(t:TypeId)(d:DataW H):Prop:=∀k∈d.weights P t,k≤140737488351232
theorem small_of{ts:List TypeId}{ds:List (DataW H)}(h:(DataW.weightsEach P ts ds).all (·≤reachBytes)=true){j:Nat}{t:TypeId}{d:DataW H}(ht:ts[j]? = some t)(hd:ds[j]? = some d):small P t d:=fun k hk=>by
 have:=List.all_eq_true.1 h _ (mem_wEach ht hd hk)
 have:=of_decide_eq_true this
 exact this
def Opn(enc:TypeId×Value→H)(P:Program)(W:World)(base:Nat)(spare:Nat→Bool)(held:Bool){α:Type}(t:TypeId)(g:α→List Value)(ok:α→Prop):Prop:=
 ∀fu cs x,DataW.trod enc P W base spare held fu t cs=some x→small P t x.1→∃a,cs=g a∧ok a
theorem opn_field{t:TypeId}{fs:Array Field}{fu:Nat}{cs:List Value}{x:DataW H×List MemPlace}(ht:P.underlying t=some (.struct fs))(h:DataW.trod enc P W base spare held fu t cs=some x)(hs:small P t x.1) :
  cs.length=P.cellsOf t∧∀(i:Nat) (f:Field),fs[i]? = some f→∃n y,DataW.trod enc P W base spare held n f.type ((cs.drop f.offset).take (P.cellsOf f.type))=some y∧small P f.type y.1:=by
 obtain ⟨xs,n,_,rfl,hl,hlen,hf⟩:=DataW.trod_struct ht h
 refine ⟨hl,fun i f hi=>?_⟩
 have hlt:i<xs.length:=by rw[hlen];exact (Array.getElem?_eq_some_iff.1 hi).1
 have h1:=hf i f hi
 rw[List.getElem?_eq_getElem hlt]at h1
 refine ⟨n,xs[i],h1,fun k hk=>hs k ?_⟩
 simp only[DataW.weights,ht]
 exact mem_wEach (j:=i) (t:=f.type) (d:=xs[i].1) (by simp;exact ⟨f,by simpa using hi,rfl⟩) (by simp[hlt]) hk
theorem opn_slice{α:Type}{t e:TypeId}{z B:Nat}{g:α→List Value}{ok:α→Prop}{v:Value}{d:DataW H}{ps:List MemPlace}{r:Reach}{b0:Nat}(ho:Opn enc P W base spare held e g ok)(hg:∀a,(g a).length=z)(hz:P.cellsOf e=z)(hB:P.bytesOf e=B)(ht:P.underlying t=some (.slice e))(hv:Value.okWide P W r b0 t v)(h:DataW.Trod enc P W base spare held t v d ps)(hs:small P t d) :
  ∃l:List α,IsR (heapM W) z g v l∧l.length*B≤140737488351232∧∀a∈l,ok a:=by
 obtain ⟨n,cs,hsl,hn,hel⟩:=open_row ht hz hv h
 obtain ⟨fuel,hf⟩:=h
 obtain ⟨a,len,cap,rfl⟩:=okWide_slice ht hv
 have hone:(Value.slice a len cap).cells.toList=[.slice a len cap]:=rfl
 rw[hone]at hf
 rcases Go.Deep.open_slice ht hf with ⟨h0,_⟩|⟨a',len',cap',m,k,D,Pl,hcs,hb,hl,hm,hmm,hx,hi⟩
 ·obtain ⟨rfl,rfl,rfl⟩:a=none∧len=0∧cap=0:=by simpa using h0
  have:n=0:=by have:=hsl.len;simpa [slen] using this.symm
  subst this
  refine ⟨[],?_,by simp,by simp⟩
  exact slM_nil _ _ _
 ·obtain ⟨rfl,rfl,rfl⟩:a=some a'∧len=len'∧cap=cap':=by simpa using hcs
  have hnl:n=len:=by have:=hsl.len;simpa [slen] using this.symm
  subst hnl
  have hlm:n≤m:=by rw[hmm];split<;>omega
  obtain rfl:d=_:=congrArg Prod.fst hx
  have hw:n*B≤140737488351232:=by
   have:=hs (((List.range n).map D).length+((List.range (m-n)).map fun j=>D (n+j)).length |> (· * P.bytesOf e)) (by simp[DataW.weights,ht])
   simp only[List.length_map,List.length_range,hB]at this
   exact Nat.le_trans (Nat.mul_le_mul_right B (Nat.le_add_right n (m-n))) this
  have hsm:∀i,i<n→small P e (D i):=fun i hin q hq=>hs q (by
   simp only[DataW.weights,ht,List.mem_cons,List.mem_append]
   exact .inr (.inl (mem_wAll (List.mem_map.2 ⟨i,by simpa using hin,rfl⟩) hq)))
  have hsp:=okSlice ht hv
  have key:∀i,i<n→∃y,(cs.drop (i*z)).take z=g y∧ok y:=fun i hin=>by
   obtain ⟨cs',h1,h2⟩:=hi i (by omega)
   obtain ⟨y,e1,e2⟩:=ho _ _ _ h2 (hsm i hin)
   refine ⟨y,?_,e2⟩
   rw[←e1]
   obtain ⟨_,h3,h4⟩:=World.cells?_some h1
   obtain ⟨b,off,sp⟩:=a'
   obtain rfl:sp=none:=hsp
   have hrow:rowM (heapM W) b off (n*z)=some cs:=by
    by_cases hn0:n=0
    ·omega
    ·have:=hsl.row
     simpa [rowS] using this
   obtain ⟨r1,r2⟩:=rowM_get hrow
   have hle:i*z+z≤n*z:=by
    have:=Nat.mul_le_mul_right z (show i+1≤n by omega)
    rw[Nat.succ_mul]at this
    exact this
   apply List.ext_getElem?
   intro j
   by_cases hj:j<z
   ·rw[List.getElem?_take_of_lt hj,List.getElem?_drop]
    have h5:=h4 j (by omega)
    have hjl:j<cs'.length:=by omega
    rw[List.getElem?_eq_getElem hjl]at h5 ⊢
    have h6:=(cell_heapM h5).2
    have hb1:∀(x:Addr) n,(x.add n).block=x.block:=fun x n=>by unfold Addr.add;split<;>rfl
    have hb2:∀(x:Addr) n,(x.add n).off=x.off+n:=fun x n=>by unfold Addr.add;split<;>simp_all
    rw[hb1,hb1,hb2,hb2,hz]at h6
    have hc:i*z+j<cs.length:=by omega
    have:=r2 (i*z+j) cs[i*z+j] (by rw[List.getElem?_eq_getElem hc])
    rw[List.getElem?_eq_getElem hc]
    simp only at h6
    rw[show off+(i*z+j)=off+i*z+j by omega]at this
    rw[←this,h6]
   ·rw[List.getElem?_eq_none (by rw[List.length_take];omega),List.getElem?_eq_none (by omega)]
  have hcl:=hsl.size
  have all:∀k,k≤n→∃l:List α,l.length=k∧cs.take (k*z)=l.flatMap g∧∀a∈l,ok a:=by
   intro k
   induction k with
   | zero=>intro _;exact ⟨[],rfl,by simp,by simp⟩
   | succ k ih=>
    intro hk
    obtain ⟨l,e1,e2,e3⟩:=ih (by omega)
    obtain ⟨y,e4,e5⟩:=key k (by omega)
    refine ⟨l++[y],by simp[e1],?_,fun a ha=>?_⟩
    ·rw[List.flatMap_append,←e2,Nat.succ_mul,List.take_add,e4];simp
    ·rcases List.mem_append.1 ha with h|h
     ·exact e3 a h
     ·rw[List.mem_singleton.1 h];exact e5
  obtain ⟨l,e1,e2,e3⟩:=all n (Nat.le_refl _)
  rw[List.take_of_length_le (by omega)]at e2
  refine ⟨l,?_,by rw[e1];exact hw,e3⟩
  unfold IsR
  rw[e1,←e2];exact hsl
end
structure RawF (M:Mem) (x:FR):Prop where
 n:IsL M u32V x.u1 x.l1
 d:IsL M u32V x.u2 x.l2
 on:okN x.l1
 od:okN x.l2
 bn:x.l1.length≤140737488351232
 bd:x.l2.length≤140737488351232
section
variable {H:Type}{enc:TypeId×Value→H}{P:Program}{W:World}{base:Nat}{spare:Nat→Bool}{held:Bool}
theorem cell_rowF{t e:TypeId}{z fuel:Nat}{v:Value}{x0:DataW H×List MemPlace}(ht:P.underlying t=some (.slice e))(hz:P.cellsOf e=z)(hz0:0<z)(hf:DataW.trod enc P W base spare held fuel t [v]=some x0)(hs:small P t x0.1) :
  ∃n cs,SlM (heapM W) z v n cs∧n*P.bytesOf e≤140737488351232∧∀i,i<n→∃fu x,DataW.trod enc P W base spare held fu e ((cs.drop (i*z)).take z)=some x∧small P e x.1:=by
 rcases Go.Deep.open_slice ht hf with ⟨h0,_⟩|⟨a,len,cap,m,n,D,Pl,hcs,hb,hl,hm,hmm,hx,hi⟩
 ·obtain rfl:v=.slice none 0 0:=by simpa using h0
  exact ⟨0,[],slM_nil _ _ _,by simp,fun i hi=>by omega⟩
 ·obtain rfl:v=.slice (some a) len cap:=by simpa using hcs
  have hlm:len≤m:=by rw[hmm];split<;>omega
  have hx1:=congrArg Prod.fst hx
  have hw:len*P.bytesOf e≤140737488351232:=by
   have:=hs (((List.range len).map D).length+((List.range (m-len)).map fun j=>D (len+j)).length |> (· * P.bytesOf e)) (by rw[hx1];simp[DataW.weights,ht])
   simp only[List.length_map,List.length_range]at this
   exact Nat.le_trans (Nat.mul_le_mul_right _ (Nat.le_add_right len (m-len))) this
  have hsm:∀i,i<len→small P e (D i):=fun i hin q hq=>hs q (by
   rw[hx1]
   simp only[DataW.weights,ht,List.mem_cons,List.mem_append]
   exact .inr (.inl (mem_wAll (List.mem_map.2 ⟨i,by simpa using hin,rfl⟩) hq)))
  subst hz
  by_cases h0:len=0
  ·subst h0
   exact ⟨0,[],slM_empty _ _ _ _,by simp,fun i hi=>by omega⟩
  have hsp:a.spot=none:=by
   ·obtain ⟨cs',h1,_⟩:=hi 0 (by omega)
    obtain ⟨_,h3,h4⟩:=World.cells?_some h1
    have h5:=h4 0 (by omega)
    rw[List.getElem?_eq_getElem (by omega)]at h5
    have h6:=(cell_heapM h5).1
    rw[Nat.zero_mul]at h6
    simpa [Addr.add] using h6
  have key:∀i,i<len→∃cs',cs'.length=P.cellsOf e∧(∀j,j<P.cellsOf e→cellM (heapM W) a.block (a.off+i*P.cellsOf e+j)=cs'[j]?)∧∃fu x,DataW.trod enc P W base spare held fu e cs'=some x∧small P e x.1:=by
   intro i hil
   obtain ⟨cs',h1,h2⟩:=hi i (by omega)
   obtain ⟨_,h3,h4⟩:=World.cells?_some h1
   refine ⟨cs',h3,fun j hj=>?_,_,_,h2,hsm i hil⟩
   have h5:=h4 j hj
   rw[List.getElem?_eq_getElem (by omega)]at h5 ⊢
   have h6:=(cell_heapM h5).2
   have hb1:∀(x:Addr) n,(x.add n).block=x.block:=fun x n=>by unfold Addr.add;split<;>rfl
   have hb2:∀(x:Addr) n,(x.add n).off=x.off+n:=fun x n=>by unfold Addr.add;split<;>simp_all
   rw[hb1,hb1,hb2,hb2]at h6
   exact h6
  let F:Nat→List Value:=fun i=>if h:i<len then (key i h).choose else []
  have hF:∀i (h:i<len),(F i).length=P.cellsOf e∧(∀j,j<P.cellsOf e→cellM (heapM W) a.block (a.off+i*P.cellsOf e+j)=(F i)[j]?)∧∃fu x,DataW.trod enc P W base spare held fu e (F i)=some x∧small P e x.1:=by
   intro i h
   have:=(key i h).choose_spec
   show (dite _ _ _:List Value).length=_∧_
   simp only[F,h,dite_true]
   exact this
  have hlen:∀k,k≤len→((List.range k).flatMap F).length=k*P.cellsOf e∧(∀j,j<k*P.cellsOf e→cellM (heapM W) a.block (a.off+j)=((List.range k).flatMap F)[j]?)∧∀i,i<k→(((List.range k).flatMap F).drop (i*P.cellsOf e)).take (P.cellsOf e)=F i:=by
   intro k
   induction k with
   | zero=>intro _;simp
   | succ k ih=>
    intro hk
    obtain ⟨a1,a2,a3⟩:=ih (by omega)
    obtain ⟨b1,b2,_⟩:=hF k (by omega)
    rw[List.range_succ,List.flatMap_append]
    simp only[List.flatMap_cons,List.flatMap_nil,List.append_nil]
    refine ⟨by rw[List.length_append,a1,b1,Nat.succ_mul],fun j hj=>?_,fun i hi=>?_⟩
    ·by_cases hjk:j<k*P.cellsOf e
     ·rw[List.getElem?_append_left (by omega)]
      exact a2 j hjk
     ·rw[List.getElem?_append_right (by omega),a1]
      have:=b2 (j-k*P.cellsOf e) (by rw[Nat.succ_mul]at hj;omega)
      rw[←this]
      congr 1
      omega
    ·by_cases hik:i<k
     ·rw[←a3 i hik]
      have h1:i*P.cellsOf e+P.cellsOf e≤k*P.cellsOf e:=by
       have:=Nat.mul_le_mul_right (P.cellsOf e) (show i+1≤k by omega)
       rw[Nat.succ_mul]at this
       exact this
      rw[List.drop_append_of_le_length (by omega),List.take_append_of_le_length (by rw[List.length_drop];omega)]
     ·obtain rfl:i=k:=by omega
      rw[List.drop_append_of_le_length (by omega),List.drop_eq_nil_of_le (by omega)]
      simp only[List.nil_append]
      exact List.take_of_length_le (by omega)
  obtain ⟨c1,c2,c3⟩:=hlen len (Nat.le_refl _)
  refine ⟨len,(List.range len).flatMap F,⟨rfl,rfl,hl,c1,?_⟩,hw,fun i hi=>?_⟩
  ·obtain ⟨b,off,sp⟩:=a
   obtain rfl:sp=none:=hsp
   refine rowM_of c1 fun i v hv=>?_
   have hlt:i<((List.range len).flatMap F).length:=(List.getElem?_eq_some_iff.1 hv).1
   rw[←hv]
   exact c2 i (by omega)
  ·rw[c3 i hi]
   exact (hF i hi).2.2
theorem cell_u32s{t e:TypeId}{fuel:Nat}{v:Value}{x0:DataW H×List MemPlace}(ht:P.underlying t=some (.slice e))(he:P.underlying e=some (.int .u32))(hz:P.cellsOf e=1)(hB:P.bytesOf e=4)(hf:DataW.trod enc P W base spare held fuel t [v]=some x0)(hs:small P t x0.1) :
  ∃l:List Nat,IsL (heapM W) u32V v l∧okN l∧l.length≤140737488351232:=by
 obtain ⟨n,cs,h1,h2,h3⟩:=cell_rowF ht hz (by omega) hf hs
 rw[hB]at h2
 have hl:cs.length=n:=by have:=h1.size;omega
 have key:∀i,i<cs.length→∃y:Int,cs[i]? = some (intVk .u32 y)∧(Lit.int .u32 y).wf=true:=by
  intro i hi
  obtain ⟨fu,x,hx,_⟩:=h3 i (by omega)
  rw[Nat.mul_one,List.drop_eq_getElem_cons hi]at hx
  have hx:DataW.trod enc P W base spare held fu e [cs[i]]=some x:=hx
  obtain ⟨y,h4,_,h5⟩:=DataW.trod_int he hx
  exact ⟨y,by rw[List.getElem?_eq_getElem hi];simpa [intVk] using h4,h5⟩
 have all:∀cs:List Value,(∀i,i<cs.length→∃y:Int,cs[i]? = some (intVk .u32 y)∧(Lit.int .u32 y).wf=true)→∃l:List Int,cs=l.map (intVk .u32)∧∀x∈l,(Lit.int .u32 x).wf=true:=by
  intro cs
  induction cs with
  | nil=>intro _;exact ⟨[],rfl,by simp⟩
  | cons c cs ih=>
   intro hh
   obtain ⟨y,hy,hw⟩:=hh 0 (by simp)
   obtain ⟨l,rfl,hl⟩:=ih fun i hi=>by have:=hh (i+1) (by simp;omega);simpa using this
   obtain rfl:c=intVk .u32 y:=by simpa using hy
   exact ⟨y :: l,rfl,by simpa using ⟨hw,hl⟩⟩
 obtain ⟨l,rfl,hw⟩:=all cs key
 have hln:l.length=n:=by simpa using hl
 subst hln
 have h1:IsL (heapM W) (intVk .u32) v l:=h1
 obtain ⟨g1,g2⟩:=nats_of h1 hw
 exact ⟨_,g1,g2,by rw[List.length_map];omega⟩
theorem opn_frac{e nt i0:TypeId}{f0 f1:Field}(he:P.underlying e=some (.struct #[f0,f1]))(hn:P.underlying nt=some (.slice i0))(hi:P.underlying i0=some (.int .u32))
  (hf:f0.type=nt∧f1.type=nt) (hof:f0.offset=0∧f1.offset=1) (hc:P.cellsOf e=2∧P.cellsOf nt=1∧P.cellsOf i0=1∧P.bytesOf i0=4):Opn enc P W base spare held e FR.c (RawF (heapM W)):=fun fu cs x h hs=>by
 obtain ⟨c1,c2,c3,c4⟩:=hc
 obtain ⟨o0,o1⟩:=hof
 obtain ⟨t0,t1⟩:=hf
 obtain ⟨hl,hg⟩:=opn_field he h hs
 rw[c1]at hl
 obtain ⟨a0,a1,rfl⟩:=len2 hl
 obtain ⟨_,_,e0,s0⟩:=hg 0 f0 rfl
 obtain ⟨_,_,e1,s1⟩:=hg 1 f1 rfl
 rw[t0]at e0 s0
 rw[t1]at e1 s1
 rw[o0,c2]at e0
 rw[o1,c2]at e1
 obtain ⟨l1,p1,p2,p3⟩:=cell_u32s hn hi c3 c4 (v:=a0) e0 s0
 obtain ⟨l2,q1,q2,q3⟩:=cell_u32s hn hi c3 c4 (v:=a1) e1 s1
 exact ⟨⟨a0,a1,l1,l2⟩,rfl,p1,q1,p2,q2,p3,q3⟩
end
end Go.Proofs.YtbclgnojcnkehaaGreat.Sx
namespace Go.Proofs.YtbclgnojcnkehaaGreat.Sx
open Go Go.RowKit
set_option linter.unusedVariables false
set_option linter.unusedSimpArgs false
set_option maxRecDepth 100000
set_option maxHeartbeats 8000000
attribute [local congr] fin_congr finG_congr stepG_congr step1_congr runOps_congr brv_congr obl_congr condK_congr LoopK_congr seqK_congr CutK_congr vc_congr DrawK_congr regK_congr CallK_congr AskK_congr newK_congr retC_congr ret1_congr retK_congr outV_congr closeK_congr genR_congr appR_congr finD_congr finGD_congr stepGD_congr stepD_congr CallK0_congr runD_congr okR_congr CallS_congr vcX_congr
attribute [local congr] Stop_congr
set_option exponentiation.threshold 5000
theorem cmpN_le1{x y:Nat}(h:decide (cmpN x y≤0)=true):x≤y:=by
 rw[decide_eq_true_eq]at h
 unfold cmpN at h
 (repeat' split at h)<;>omega
theorem cmpN_lt1{x y:Nat}(h:decide (cmpN x y<0)=true):x<y:=by
 rw[decide_eq_true_eq]at h
 unfold cmpN at h
 (repeat' split at h)<;>omega
theorem chkN_1000:chkN (ofN 1000)=true:=chkN_ofN (sm1000 (by decide)).len
theorem chkF_11:chkF (ofN 1) (ofN 1)=true:=by decide +kernel
theorem inn_okn{a b:List Nat}(ha:okN a)(hb:okN b)(h:innF a b=true):∃p:Nat×Nat,OkN p∧(a,b)=opN p:=by
 unfold innF chaF at h
 simp only[Bool.and_eq_true]at h
 obtain ⟨⟨hc,_,h1000⟩,h0,hlt⟩:=h
 obtain ⟨e1,e2,b1,b2,hd,hg⟩:=chkF_ok ha hb hc
 refine ⟨(valN a,valN b),⟨?_,?_,?_,hg⟩,?_⟩
 ·rw[decide_eq_true_eq]at h0
  rcases Nat.eq_zero_or_pos (valN a) with e|e
  ·have:=(nil_iff e1).2 e;omega
  ·exact e
 ·unfold cmpF at hlt
  rw[hc,chkF_11,Bool.and_self,if_pos rfl,valN_ofN,Nat.mul_one,Nat.one_mul]at hlt
  exact cmpN_lt1 hlt
 ·unfold cmpR at h1000
  have hcb:chkN b=true:=by
   unfold chkF at hc
   simp only[Bool.and_eq_true]at hc
   exact hc.1.1.2
  rw[hcb,chkN_1000,Bool.and_self,if_pos rfl,valN_ofN]at h1000
  exact cmpN_le1 h1000
 ·unfold opN
  rw[←e1,←e2]
theorem all_okn:∀{P:List FR},(∀x∈P,okN x.l1∧okN x.l2)→P.all (fun x=>innF x.l1 x.l2)=true→∃N:List (Nat×Nat),P.map prV=N.map opN∧∀p∈N,OkN p
 | [],_,_=>⟨[],rfl,by simp⟩
 | x :: r,hP,h=>by
  rw[List.all_cons,Bool.and_eq_true]at h
  obtain ⟨N,h1,h2⟩:=all_okn (P:=r) (fun y hy=>hP y (List.mem_cons_of_mem _ hy)) h.2
  obtain ⟨h3,h4⟩:=hP x (List.mem_cons_self ..)
  obtain ⟨p,h5,h6⟩:=inn_okn h3 h4 h.1
  refine ⟨p :: N,?_,?_⟩
  ·rw[List.map_cons,List.map_cons,h1,←h6];rfl
  ·intro q hq
   rcases List.mem_cons.1 hq with rfl|hq
   ·exact h5
   ·exact h2 q hq
theorem prod_few{P:List FR}(hP:∀x∈P,okN x.l1∧okN x.l2):P.all (fun x=>innF x.l1 x.l2)=true→P.length≤8→∀s,(prodV 1 1 (facG s 0 P)).1=0:=fun h h8 s=>by
 obtain ⟨N,h1,h2⟩:=all_okn hP h
 exact (newW_red h1 h2 (by have:=congrArg List.length h1;simp at this;omega) s).1
theorem newB_cases{l:List Int}{P:List FR}{m:Int}(hP:∀x∈P,okN x.l1∧okN x.l2):(∃e,e≠0∧newB l P m=errB e)∨∃q,newB l P m=⟨0,l,setsL l m,q⟩∧BX l (setsL l m) q b0:=by
 unfold newB
 by_cases he:setsE l m=0
 case neg=>exact .inl ⟨_,he,by rw[if_neg he]⟩
 by_cases hl:P.length=l.length
 case neg=>exact .inl ⟨1,by decide,by rw[if_pos he,if_neg hl]⟩
 cases hi:P.all (fun x=>innF x.l1 x.l2) with
 | false=>exact .inl ⟨41,by decide,by rw[if_pos he,if_pos hl,if_neg (by decide)]⟩
 | true=>
  obtain ⟨N,h1,h2⟩:=all_okn hP hi
  have hcl:chkL l=true∧(m=1∨m=2):=by
   unfold setsE at he
   split at he
   ·rename_i hc
    split at he
    ·rename_i hm
     rw[decide_eq_true_eq]at hm
     exact ⟨hc,by omega⟩
    ·cases he
   ·cases he
  obtain ⟨q,h3,h4⟩:=newB_law hcl.1 hcl.2 hl h1 h2
  unfold newB at h3
  rw[if_pos he,if_pos hl,hi]at h3
  exact .inr ⟨q,by rw[if_pos he,if_pos hl];exact h3,h4⟩
structure NewP (r:BR):Prop where
 chk:∀L:List FR,L.map prV=r.q.map (fun q=>(ofN q.1,ofN q.2))→chkB r.l (r.s.map fun (x:Nat)=>(x:Int)) L=decide (r.e=0)
 l:r.l.length<1000000
 s:r.s.length<1000000
 q:r.q.length<1000000
theorem newB_p{l:List Int}{P:List FR}{m:Int}(hP:∀x∈P,okN x.l1∧okN x.l2):NewP (newB l P m):=by
 rcases newB_cases (l:=l) (m:=m) hP with ⟨e,h0,h⟩|⟨q,h,hX⟩
 ·rw[h]
  refine ⟨fun L _=>?_,show 0<1000000 by decide,show 0<1000000 by decide,show 0<1000000 by decide⟩
  show chkB [] [] L=decide (e=0)
  rw[decide_eq_false h0]
  rfl
 ·rw[h]
  obtain ⟨h1,h2,h3,_⟩:=hX.len
  exact ⟨fun L hL=>by
   rw[hX.chk (smB (j:=0) (by omega) |>.le (by omega)) hL];rfl,by show l.length<_;omega,by show (setsL l m).length<_;omega,by show q.length<_;omega⟩
section
variable {M:Mem}{K:AV→Hp→Mem→Prop}{ur up:Value}{l:List Int}{P:List FR}
theorem pnewL_ok(m:Int)(h1:IsL M intV64 ur l)(h2:IsR M 2 FR.c up P)(b1:l.length<1000000)(b2:P.length≤140737488351232)(hl:P.length≠l.length)(hK:BelK M K (newB l P m)):CallS Tryz.prog 15 [.ext (.agg #[ur]),.ext up,.ext (.int .i64 m)] [] M [] K:=by
 refine inlS (cs:=[]) Tryz.mixed Tryz.func15 rfl (by kernel_rfl) 0 rfl rfl ?_
 simp only[Tryz.f15]
 have o1:=h1.one
 have n1:=h1.len
 have s1:=h1.sl
 have o2:=h2.one
 have n2:=h2.len
 have s2:=h2.sl
 unfold newB at hK
 have hf:=A6 o1 o2 n1 n2 s1 s2;refine sF ?_;(repeat' ((first|((with_reducible refine yN ?_);refine kS 43 (Sets_ok ur l m h1 (by omega) (fun us M1 m1 a1 afr=>Stop.mk ?_)))|refine oB ?_|fail)<;>refine sF ?_<;>try with_reducible exact tT))<;>try clear hf
 have m1:Mem.le M M1:=m1
 have o3:=a1.one
 by_cases he:setsE l m=0
 case neg=>
  rw[if_neg he]at hK
  have hk:=hK.err m1
  have e1:decide (setsE l m=0)=false:=decide_eq_false he
  refine Stop.go ?_
  have hf:=A4 o1 o2 o3 e1;refine sF ?_;(repeat' ((first|refine oB ?_|fail)<;>refine sF ?_<;>try with_reducible exact tT))<;>try clear hf
  exact hk
 rw[if_pos he,if_neg hl]at hK
 have e1:decide (setsE l m=0)=true:=decide_eq_true he
 have hk:=hK.err m1
 have e2:decide ((P.length:Int)=(l.length:Int))=false:=decide_eq_false (by omega)
 refine Stop.go ?_
 have hf:=A9 o1 o2 o3 n1 n2 s1 s2 e1 e2;refine sF ?_;(repeat' ((first|refine oB ?_|fail)<;>refine sF ?_<;>try with_reducible exact tT))<;>try clear hf
 exact hk
theorem rnewL_ok(m:Int)(h1:IsL M intV64 ur l)(h2:IsR M 2 FR.c up P)(b1:l.length<1000000)(b2:P.length≤140737488351232)(hl:P.length≠l.length)(hK:BelK M K (newB l P m)):CallS Tryz.prog 16 [.ext (.agg #[ur]),.ext up,.ext (.int .i64 m)] [] M [] K:=by
 refine inlS (cs:=[]) Tryz.mixed Tryz.func16 rfl (by kernel_rfl) 0 rfl rfl ?_
 simp only[Tryz.f16]
 have o1:=h1.one
 have n1:=h1.len
 have s1:=h1.sl
 have o2:=h2.one
 have n2:=h2.len
 have s2:=h2.sl
 unfold newB at hK
 have hf:=A6 o1 o2 n1 n2 s1 s2;refine sF ?_;(repeat' ((first|((with_reducible refine yN ?_);refine kS 51 (SetsR_ok ur l m h1 (by omega) (fun us M1 m1 a1 _=>Stop.mk ?_)))|refine oB ?_|fail)<;>refine sF ?_<;>try with_reducible exact tT))<;>try clear hf
 have m1:Mem.le M M1:=m1
 have o3:=a1.one
 by_cases he:setsE l m=0
 case neg=>
  rw[if_neg he]at hK
  have hk:=hK.err m1
  have e1:decide (setsE l m=0)=false:=decide_eq_false he
  refine Stop.go ?_
  have hf:=A4 o1 o2 o3 e1;refine sF ?_;(repeat' ((first|refine oB ?_|fail)<;>refine sF ?_<;>try with_reducible exact tT))<;>try clear hf
  exact hk
 rw[if_pos he,if_neg hl]at hK
 have hk:=hK.err m1
 have e1:decide (setsE l m=0)=true:=decide_eq_true he
 have e2:decide ((P.length:Int)=(l.length:Int))=false:=decide_eq_false (by omega)
 refine Stop.go ?_
 have hf:=A9 o1 o2 o3 n1 n2 s1 s2 e1 e2;refine sF ?_;(repeat' ((first|refine oB ?_|fail)<;>refine sF ?_<;>try with_reducible exact tT))<;>try clear hf
 exact hk
theorem pnewA_ok(m:Int)(h1:IsL M intV64 ur l)(h2:IsR M 2 FR.c up P)(b1:l.length<1000000)(b2:P.length≤140737488351232)(h3:P.length=l.length→okFL M P)(hK:BelK M K (newB l P m)):CallS Tryz.prog 15 [.ext (.agg #[ur]),.ext up,.ext (.int .i64 m)] [] M [] K:=by
 by_cases hl:P.length=l.length
 ·exact pnew_ok m h1 h2 (h3 hl) b1 (by omega) (prod_few fun x hx=>⟨(h3 hl x hx).on,(h3 hl x hx).od⟩) hK
 ·exact pnewL_ok m h1 h2 b1 b2 hl hK
theorem rnewA_ok(m:Int)(h1:IsL M intV64 ur l)(h2:IsR M 2 FR.c up P)(b1:l.length<1000000)(b2:P.length≤140737488351232)(h3:P.length=l.length→okFL M P)(hK:BelK M K (newB l P m)):CallS Tryz.prog 16 [.ext (.agg #[ur]),.ext up,.ext (.int .i64 m)] [] M [] K:=by
 by_cases hl:P.length=l.length
 ·exact rnew_ok m h1 h2 (h3 hl) b1 (by omega) hK
 ·exact rnewL_ok m h1 h2 b1 b2 hl hK
end
theorem le_nilC{s:St}(j k:Nat)(T T':TypeId)(zz:Nat)(h1:lkH s.hp j=some (T,[.ext (.slice none 0 0)]))(h2:awayP k s):Le s {env:=s.env,hp:=(k,T',[]) :: upH s.hp j [.slo k 0 0 zz],M:=s.M,kb:=s.kb,fx:=s.fx,fr:=s.fr}:=fun c n ρ av w g=>by
 have hlk:∀i x,lkH ((k,T',[]) :: upH s.hp j [.slo k 0 0 zz]) i=some x→(i=k∧x=(T',[]))∨(i≠k∧((i=j∧x=(T,[.slo k 0 0 zz]))∨(i≠j∧lkH s.hp i=some x))):=fun i x hi=>by
  by_cases e:k=i
  ·subst e;simp[lkH]at hi;exact .inl ⟨rfl,hi.symm⟩
  ·simp only[lkH,if_neg e,lkH_upH]at hi
   refine .inr ⟨fun e2=>e e2.symm,?_⟩
   by_cases e2:j=i
   ·subst e2;rw[if_pos rfl,h1]at hi;simp at hi;exact .inl ⟨rfl,hi.symm⟩
   ·rw[if_neg e2]at hi;exact .inr ⟨fun e3=>e2 e3.symm,hi⟩
 have hsome:∀i x,lkH ((k,T',[]) :: upH s.hp j [.slo k 0 0 zz]) i=some x→i≠k→(lkH s.hp i).isSome=true:=fun i x hi hne=>by
  rcases hlk i x hi with ⟨e,_⟩|⟨_,⟨rfl,_⟩|⟨_,h⟩⟩
  ·exact absurd e hne
  ·rw[h1];rfl
  ·rw[h];rfl
 refine ⟨upd ρ k none,{df:=g.df,sz:=g.sz,env:=fun t=>is_upd (awayP_env h2 t) (g.env t),hp:=fun i T2 cs b hi hb=>?_,no:=fun i T2 cs hi hb=>?_,inj:=fun i i' b b' hi hi' hb hb' e=>?_,os:=g.os,tape:=g.tape,output:=g.output,size:=g.size,block:=g.block,sub:=g.sub,le:=g.le,mf:=g.mf,fix:=fun i hi=>?_,fx:=fun i hi=>?_,kl:=g.kl,fr:=g.fr}⟩
 ·rcases hlk i _ hi with ⟨rfl,hx⟩|⟨hne,⟨rfl,hx⟩|⟨hnj,hx⟩⟩
  ·rw[upd_self]at hb;cases hb
  ·rw[upd_ne _ _ hne]at hb
   cases hx
   obtain ⟨⟨arr,f1⟩,f2⟩:=g.hp i T _ b h1 hb
   refine ⟨⟨arr,f1.there,f1.size,f1.le,fun q v hv=>?_⟩,f2⟩
   cases q with
   | zero=>
    simp at hv;subst hv
    exact .inr ⟨rfl,none,(fun x e=>by cases e),f1.is 0 _ rfl⟩
   | succ q=>simp at hv
  ·rw[upd_ne _ _ hne]at hb
   obtain ⟨⟨arr,f1⟩,f2⟩:=g.hp i T2 cs b hx hb
   exact ⟨⟨arr,f1.there,f1.size,f1.le,fun q v hv=>is_upd (fun hm=>(awayP_hp h2 i T2 cs hx).2 (mentL_get hv hm)) (f1.is q v hv)⟩,f2⟩
 ·rcases hlk i _ hi with ⟨rfl,hx⟩|⟨hne,⟨rfl,hx⟩|⟨hnj,hx⟩⟩
  ·cases hx;rfl
  ·rw[upd_ne _ _ hne]at hb
   have:=g.no i T _ h1 hb
   cases this
  ·rw[upd_ne _ _ hne]at hb;exact g.no i T2 cs hx hb
 ·obtain ⟨x,hx⟩:=Option.isSome_iff_exists.1 hi
  obtain ⟨x',hx'⟩:=Option.isSome_iff_exists.1 hi'
  have hne:i≠k:=fun e=>by subst e;rw[upd_self]at hb;cases hb
  have hne':i'≠k:=fun e=>by subst e;rw[upd_self]at hb';cases hb'
  rw[upd_ne _ _ hne]at hb
  rw[upd_ne _ _ hne']at hb'
  exact g.inj i i' b b' (hsome i x hx hne) (hsome i' x' hx' hne') hb hb' e
 ·simp only[lkH,lkH_upH]
  split
  ·rfl
  ·split
   ·rename_i e;subst e;rw[h1];rfl
   ·exact g.fix i hi
 ·rw[upd_ne _ _ fun e=>awayP_fx h2 (by rw[←e];exact hi)];exact g.fx i hi
section
variable {M:Mem}{K:AV→Hp→Mem→Prop}
def plnSt(M:Mem)(n i m:Nat)(L:List Int):St:={env:=[(4,.ext (.int .i64 (i:Int))),(3,.own 3 0),(2,.own 2 0),(0,.ext (.int .i64 (n:Int)))],hp:=[(190,3,cE intV64 L),(3,33,[.slo 190 0 m 1]),(2,33,[.ext (.slice none 0 0)])],M:=M,kb:=0,fx:=[]}
theorem repl_succ(i:Nat):List.replicate (i+1) (-1:Int)=List.replicate i (-1)++[-1]:=by rw[List.replicate_succ']
theorem plain_own(n:Nat)(hn:n≤100)(hK:K (.ag false [.slo 190 0 n 1]) [(190,3,cE intV64 (List.replicate n (-1)))] M):CallS Tryz.prog 42 [.ext (.int .i64 (n:Int))] [] M [] K:=by
 refine inlS (cs:=[]) Tryz.mixed Tryz.func42 rfl (by kernel_rfl) 0 rfl rfl ?_
 simp only[Tryz.f42]
 refine sU ?_;(repeat' ((first|refine oB ?_|fail)<;>refine sU ?_<;>try with_reducible exact tT))
 refine ⟨fun d z=>∃i m,i≤n∧m=i∧d=n-i∧z=plnSt M n i m (List.replicate i (-1)),⟨n,plnSt M n 0 0 [],(le_nilC 3 190 33 3 1 rfl (.inl rfl)).trans (le_sub ⟨rfl,rfl,rfl,rfl,trivial⟩ ⟨rfl,rfl,rfl,trivial⟩ rfl rfl rfl (keepLt0 _)),⟨0,0,by omega,rfl,by omega,rfl⟩⟩,?_⟩
 rintro d z ⟨i,m,hi,hm,rfl,rfl⟩
 by_cases hlt:i<n
 ·have d1:decide ((i:Int)<(n:Int))=true:=by simp;omega
  have hw:IntKind.i64.wrap ((i:Int)+1)=((i+1:Nat):Int):=by rw[wrap_id (by omega) (by omega)];omega
  have hlen:(cE intV64 (List.replicate i (-1))).length=m:=by rw[cE_len,List.length_replicate];exact hm.symm
  have hsn:cE intV64 (List.replicate i (-1))++[.ext (.int .i64 (-1))]=cE intV64 (List.replicate (i+1) (-1)):=by
   rw[repl_succ];exact cE_snoc intV64 _ (-1)
  have hkl:killL 190 (cE intV64 (List.replicate i (-1)))=cE intV64 (List.replicate i (-1)):=by
   unfold cE
   generalize (List.replicate i (-1)).map intV64=vs
   induction vs with
   | nil=>rfl
   | cons a t ih=>simp only[List.map_cons,killL,AV.kill,ih]
  have hf:=A7 d1 hw hlen hsn @cE_ment @hasK_nil @plnSt.eq_1;refine sF ?_;(repeat' ((first|refine oB ?_|fail)<;>refine sF ?_<;>try with_reducible exact tT))<;>try clear hf
  exact ⟨n-(i+1),plnSt M n (i+1) (m+1) (List.replicate (i+1) (-1)),by omega,le_sub ⟨rfl,rfl,rfl,rfl,trivial⟩ ⟨rfl,rfl,rfl,trivial⟩ rfl rfl rfl (keepLt0 _),i+1,m+1,by omega,by omega,rfl,rfl⟩
 ·have d1:decide ((i:Int)<(n:Int))=false:=by simp;omega
  have ei:i=n:=by omega
  subst ei
  subst hm
  have hf:=A4 d1 @cE_ment @hasK_nil @plnSt.eq_1;refine sF ?_;(repeat' ((first|refine oB ?_|fail)<;>refine sF ?_<;>try with_reducible exact tT))<;>try clear hf
  exact hK
end
theorem redN_ok{n d:Nat}(h0:0<n)(h:n<d)(hd:d≤1000):OkN (red n d):=by
 have hp:=red_p (x:=n) (d:=d) (by omega)
 refine ⟨red_num (by omega) h0,?_,Nat.le_trans hp.le2 hd,hp.gcd⟩
 unfold red
 exact low_lt h
section
variable {M:Mem}{K:AV→Hp→Mem→Prop}
theorem pick9k53_ok(u:Value)(l:List Int)(p:Nat)(L:List Int)(hL:L.length=9)(hu:IsL M intV64 u l)(hp:p<1000000)(hK:∀x∈L,K (.ext (.int .i64 x)) [(53,31,[.ext u,.ext (.int .i64 ((p+1:Nat):Int))]),(105,3,cE intV64 L)] M) :
  CallS Tryz.prog 94 [.own 53 0,.slo 105 0 9 1] [(105,3,cE intV64 L),(53,31,[.ext u,.ext (.int .i64 ((p:Nat):Int))])] M [] K:=by
 refine inlS (cs:=[]) Tryz.mixed Tryz.func94 rfl (by kernel_rfl) 200 rfl rfl ?_
 simp only[Tryz.f94]
 have hf:=A6 @cE_ment @cE_len @cE_kill @hasK_nil @Nat.mul_one hu.one;refine sF ?_;(repeat' ((first|((with_reducible first|refine yA ?_|refine yC ?_);first|refine kH 14 ?_|refine kS 14 (nextI_ok 53 u l p 9 hu (by omega) (by omega) (by omega) (fun x hx0 hx1=>Stop.mk ?_)))|refine oB ?_|fail)<;>refine sF ?_<;>try with_reducible exact tT))<;>try clear hf
 obtain ⟨j,rfl⟩:=Int.eq_ofNat_of_zero_le hx0
 have hj:j<L.length:=by omega
 have hat:=cE_at intV64 hj
 have hm:L[j]∈L:=List.getElem_mem hj
 have a1:(0:Int)≤(j:Int):=by omega
 have a2:(j:Int)<9:=by omega
 have a3:(j:Int)<((9:Nat):Int):=by omega
 generalize L[j]=y at *
 refine Stop.go ?_
 have hf:=A11 @cE_ment @cE_len @cE_kill @hasK_nil @Nat.mul_one hu.one hat a1 a2 a3 @intV64.eq_1;refine sF ?_;(repeat' ((first|refine oB ?_|fail)<;>refine sF ?_<;>try with_reducible exact tT))<;>try clear hf
 exact hK _ hm
theorem inner53_ok(u:Value)(l:List Int)(p:Nat)(hu:IsL M intV64 u l)(hp:p<100000)(hK:∀(a:Nat×Nat) w1 w2 M',Mem.le M M'→IsF M' w1 w2 (ofN a.1) (ofN a.2)→OkN a→K (.ext (.agg #[w1,w2])) [(53,31,[.ext u,.ext (.int .i64 ((p+2:Nat):Int))])] M') :
  CallS Tryz.prog 40 [.own 53 0] [(53,31,[.ext u,.ext (.int .i64 ((p:Nat):Int))])] M [] K:=by
 refine inlS (cs:=[]) Tryz.mixed Tryz.func40 rfl (by kernel_rfl) 100 rfl rfl ?_
 simp only[Tryz.f40]
 have hr:∀x∈([2,3,4,5,10,20,100,1000,997]:List Int),2≤x∧x≤1000:=by decide
 have hf:=hu.one;refine sF ?_;(repeat' ((first|((with_reducible first|refine yA ?_|refine yC ?_);first|refine kH 94 ?_|refine kS 94 (pick9k53_ok u l p [2,3,4,5,10,20,100,1000,997] rfl hu (by omega) (fun x hx=>Stop.mk ?_)))|refine oB ?_|fail)<;>refine sF ?_<;>try with_reducible exact tT))<;>try clear hf
 obtain ⟨x0,x1⟩:=hr x hx
 obtain ⟨y,rfl⟩:=Int.eq_ofNat_of_zero_le (show 0≤x by omega)
 clear hx hr
 have w1:IntKind.i64.wrap ((y:Int)-1)=((y-1:Nat):Int):=pred_i (by omega) (by omega)
 refine Stop.go ?_
 have hf:=A5 @cE_ment @cE_kill @hasK_nil hu.one w1;refine sF ?_;(repeat' ((first|((with_reducible first|refine yA ?_|refine yC ?_);first|refine kH 14 ?_|refine kS 14 (nextI_ok 53 u l (p+1) ((y-1:Nat):Int) hu (by omega) (by omega) (by omega) (fun z hz0 hz1=>Stop.mk ?_)))|refine oB ?_|fail)<;>refine sF ?_<;>try with_reducible exact tT))<;>try clear hf
 obtain ⟨m,rfl⟩:=Int.eq_ofNat_of_zero_le hz0
 obtain ⟨n,hnm⟩:∃n,n=m+1:=⟨_,rfl⟩
 have w2:IntKind.i64.wrap (1+(m:Int))=(n:Int):=by rw[wrap_id (by omega) (by omega)];omega
 have hok:=redN_ok (n:=n) (d:=y) (by omega) (by omega) (by omega)
 refine Stop.go ?_
 have hf:=A5 @cE_ment @cE_kill @hasK_nil hu.one w2;refine sF ?_;(repeat' ((first|((with_reducible refine yN ?_);refine kS 13 (sml_ok n y (by omega) (by omega) (by omega) (fun v1 v2 M1 a1 a2 a3 _ _=>Stop.mk ?_)))|refine oB ?_|fail)<;>refine sF ?_<;>try with_reducible exact tT))<;>try clear hf
 have a1:Mem.le M M1:=a1
 have p1:=a2.one
 have p2:=a3.one
 have hf:IsF M1 v1 v2 (ofN (red n y).1) (ofN (red n y).2):=isF_ofN a2 a3 ⟨(sm1000 (by have:=hok.le1;omega)).len,(sm1000 (by have:=hok.le1;omega)).len⟩
 have hk:=hK (red n y) v1 v2 M1 a1 hf hok
 refine Stop.go ?_
 have hf:=A6 @cE_ment @cE_kill @hasK_nil hu.one p1 p2;refine sF ?_;(repeat' ((first|refine oB ?_|fail)<;>refine sF ?_<;>try with_reducible exact tT))<;>try clear hf
 exact hk
end
theorem Fz.bind{z:St}{B:St→Prop}(h:Fz z (fun y=>Fz y B)):Fz z B:=fun c n a w hcx g=>by
 obtain ⟨y,g1,h1⟩:=h c n a w hcx g
 exact h1 c n a w hcx g1
open Classical in
theorem Fz.cell{z:St}{B:St→Prop}{j k n q:Nat}{T T0:TypeId}(cs:List Value)(E:Env)(R:Hp)(hj:lkH z.hp j=some (T0,[.slo k 0 n q]))(hk:lkH z.hp k=some (T,cs.map .ext))(hn:cs.length=n*q)(hkb:z.kb≤k)(hjk:j≠k)
  (hE:subE E z.env) (hE2:k∉mentE E) (hR:subHp R z.hp) (hR2:k∉mentH R) (hkeep:keepLt z.kb R z.hp) (hfx:∀k,k<z.kb→(lkH z.hp k).isSome=true→k∈z.fx)
  (h:∀M' U,Mem.le z.M M'→SlM M' q U n cs→FreshS z.M U→B {env:=E,hp:=(j,T0,[.ext U]) :: R,M:=M',kb:=z.kb,fx:=z.fx,fr:=z.fr}):Fz z B:=fun c n0 a w hcx ⟨ρ,g⟩=>by
 obtain ⟨bj,hbj⟩:∃b,ρ j=some b:=by
  cases hb:ρ j with
  | none=>have:=g.no j _ _ hj hb;cases this
  | some b=>exact ⟨b,rfl⟩
 obtain ⟨⟨arr0,row0⟩,fj2,fj3⟩:=g.hp j _ _ bj hj hbj
 have hU:=row0.is 0 (.slo k 0 n q) rfl
 generalize hUe:arr0.getD 0 undef=U at hU
 let D:Nat→Prop:=fun b=>∃x,ρ k=some x∧x.b=b
 let M':Mem:=fun b=>if D b then w.heap[b]? else z.M b
 have hRz:∀k x,lkH R k=some x→lkH z.hp k=some x:=subHp_lk hR
 have hRF:∀i x,lkH R i=some x→i≠k:=fun i x hx e=>by
  subst e
  exact hR2 (mentH_lk (T:=x.1) (cs:=x.2) hx (.inl rfl))
 have hMD:∀b,D b→z.M b=none:=fun b ⟨x,hx,e⟩=>by
  rw[←e];exact (g.hp k _ _ x hk hx).2.2
 have hle:Mem.le z.M M':=fun b o hb=>by
  by_cases hD:D b
  ·rw[hMD b hD]at hb;cases hb
  ·simp only[M',if_neg hD];exact hb
 have hlk:∀j x,lkH [(k,T,cs.map AV.ext)] j=some x→j=k∧x=(T,cs.map .ext):=fun j x h=>by
  simp only[lkH]at h
  split at h
  ·rename_i e;cases h;exact ⟨e.symm,rfl⟩
  ·cases h
 have hc:closedH [(k,T,cs.map AV.ext)]:=fun j T' ds q hj hq=>by
  obtain ⟨_,e⟩:=hlk j _ hj
  cases e
  rw[mentL_ext]at hq;cases hq
 have hhold:HoldH ρ z.M M' [(k,T,cs.map AV.ext)] w:=fun i T' ds b hi hb=>by
  obtain ⟨rfl,e⟩:=hlk i _ hi
  cases e
  obtain ⟨⟨arr,h1⟩,_,h2⟩:=g.hp _ _ _ b hk hb
  have hD:D b.b:=⟨b,hb,rfl⟩
  exact ⟨⟨arr,by simp only[M',if_pos hD];exact h1.there,h1⟩,h2⟩
 have hB:B {env:=E,hp:=(j,T0,[.ext U]) :: R,M:=M',kb:=z.kb,fx:=z.fx,fr:=z.fr}:=by
  have h2:=borI_is hhold (.slo k 0 n q) U (fun i hi=>by
   have:i=k:=by simpa [AV.ment] using hi
   subst this
   simp[lkH]) hU
  obtain ⟨h3,h4⟩:=h2
  have h5:=h4 T cs (by simp[lkH]) (by omega)
  rw[List.drop_zero,List.take_of_length_le (by omega)]at h5
  exact h M' U hle h5 h3
 have hlk2:∀i x,lkH ((j,T0,[AV.ext U]) :: R) i=some x→(i=j∧x=(T0,[.ext U]))∨(i≠j∧lkH R i=some x):=fun i x hx=>by
  simp only[lkH]at hx
  split at hx
  ·rename_i e;cases hx;exact .inl ⟨e.symm,rfl⟩
  ·rename_i e;exact .inr ⟨fun e2=>e e2.symm,hx⟩
 have hsome:∀i,(lkH ((j,T0,[AV.ext U]) :: R) i).isSome=true→(lkH z.hp i).isSome=true:=fun i hi=>by
  obtain ⟨x,hx⟩:=Option.isSome_iff_exists.1 hi
  rcases hlk2 i x hx with ⟨rfl,_⟩|⟨_,hx⟩
  ·rw[hj];rfl
  ·rw[hRz i x hx];rfl
 have hnk:∀i,(lkH ((j,T0,[AV.ext U]) :: R) i).isSome=true→i≠k:=fun i hi=>by
  obtain ⟨x,hx⟩:=Option.isSome_iff_exists.1 hi
  rcases hlk2 i x hx with ⟨rfl,_⟩|⟨_,hx⟩
  ·exact hjk
  ·exact hRF i x hx
 have hnD:∀i b,(lkH ((j,T0,[AV.ext U]) :: R) i).isSome=true→ρ i=some b→¬D b.b:=fun i b hi hb ⟨x,hx,e⟩=>by
  exact hnk i hi (g.inj k i x b (by rw[hk];rfl) (hsome i hi) hx hb e).symm
 refine ⟨_,⟨ρ,?_⟩,hB⟩
 refine {df:=g.df,sz:=g.sz,env:=fun t=>?_,hp:=fun i T' ds b hi hb=>?_,no:=fun i T' ds hi hb=>?_,inj:=fun i i' b b' hi hi' hb hb' e=>g.inj i i' b b' (hsome i hi) (hsome i' hi') hb hb' e,os:=g.os,tape:=g.tape,output:=g.output,size:=g.size,block:=g.block,sub:=fun b o hb=>?_,le:=g.le.trans hle,mf:=fun b hb=>?_,fix:=fun i hi=>?_,fx:=g.fx,kl:=g.kl,fr:=g.fr}
 ·show (lk E t).is ρ _
  rcases subE_lk hE t with e2|e2
  ·rw[e2];trivial
  ·rw[e2];exact g.env t
 ·have hD:=hnD i b (by rw[hi];rfl) hb
  rcases hlk2 i _ hi with ⟨rfl,e⟩|⟨_,hi⟩
  ·cases e
   rw[hbj]at hb;cases hb
   refine ⟨⟨arr0,row0.there,row0.size,row0.le,fun p v hv=>?_⟩,fj2,?_⟩
   ·cases p with
    | zero=>cases hv;exact hUe
    | succ p=>cases hv
   ·show M' bj.b=none
    simp only[M',if_neg hD];exact fj3
  ·obtain ⟨f1,f2,f3⟩:=g.hp i T' ds b (hRz i _ hi) hb
   refine ⟨f1,f2,?_⟩
   show M' b.b=none
   simp only[M',if_neg hD];exact f3
 ·rcases hlk2 i _ hi with ⟨rfl,e⟩|⟨_,hi⟩
  ·rw[hbj]at hb;cases hb
  ·exact g.no i T' ds (hRz i _ hi) hb
 ·have hb:M' b=some o:=hb
  by_cases hD:D b
  ·simp only[M',if_pos hD]at hb;exact hb
  ·simp only[M',if_neg hD]at hb;exact g.sub b o hb
 ·have hb:M' b≠none:=hb
  by_cases hD:D b
  ·obtain ⟨x,hx,e⟩:=hD
   rcases (g.hp k _ _ x hk hx).2.1 with h5|h5
   ·rw[←e];exact .inr h5
   ·exfalso
    obtain ⟨k',y',h6,h7,h8⟩:=hcx.x _ h5
    have h9:=g.fix k' h6
    have h10:=g.kl k' h6
    have h11:=g.fx k' (hfx k' h10 h9)
    rw[h7]at h11
    have:=g.inj k' k y' x h9 (by rw[hk];rfl) h11 hx h8
    omega
  ·simp only[M',if_neg hD]at hb;exact g.mf b hb
 ·have h1:=keepLt_ok hkeep i (g.kl i hi) (g.fix i hi)
  simp only[lkH]
  split
  ·rfl
  ·exact h1
end Go.Proofs.YtbclgnojcnkehaaGreat.Sx
