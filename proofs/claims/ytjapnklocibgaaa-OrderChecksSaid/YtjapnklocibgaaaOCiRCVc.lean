/- Part 8 of the texts of this claim: a symbolic executor and contracts of functions. -/
import Derived.Test.YtjapnklocibgaaaOCiRCRun
namespace Go.Proofs.Ytjapnklocibgaaa.Sx
open Go Go.RowKit
set_option linter.unusedVariables false
set_option linter.unusedSimpArgs false
def codeOK(n:Nat):Code→Bool
 | .region _ ops _=>ops.toList.all fun o=>match o.dst with|some d=>decide (d<n)|none=>true
 | .seq a b=>codeOK n a&&codeOK n b
 | .cond _ a b=>codeOK n a&&codeOK n b
 | .block _ c=>codeOK n c
 | .loop c=>codeOK n c
 | .scope c=>codeOK n c
 | _=>true
def itemsOK(n:Nat):List Item→Prop
 | []=>True
 | .code c :: k=>codeOK n c=true∧itemsOK n k
 | _ :: k=>itemsOK n k
theorem itemsOK_pop(n id:Nat):∀k,itemsOK n k→itemsOK n (popTo id k)
 | [],_=>trivial
 | .blk i :: k,h=>by
  simp only[popTo];split
  ·exact h
  ·exact itemsOK_pop n id k h
 | .code _ :: k,h=>itemsOK_pop n id k h.2
 | .stop _ :: k,h=>itemsOK_pop n id k h
 | .marks _ :: k,h=>itemsOK_pop n id k h
section
variable {P:Program}{c:Cx}{n:Nat}
def semT(P:Program)(c:Cx)(n:Nat)(F:Act→World→Prop):List Item→Act→World→Prop
 | [],a,w=>F a w
 | .code x :: k,a,w=>x.wp P (fun e a' w'=>match e with
   | .normal=>semT P c n F k a' w'
   | .exit id=>semX id k a' w'
   | .ret=>F a' w'
   | _=>False) a w
 | .blk _ :: k,a,w=>semT P c n F k a w
 | .stop J :: _,a,w=>∃s,J s∧Ga c n s a w
 | .marks _ :: k,a,w=>semT P c n F k a w
where
 semX (id:Nat):List Item→Act→World→Prop
 | [],_,_=>False
 | .blk i :: k,a,w=>if i=id then semT P c n F k a w else semX id k a w
 | .code _ :: k,a,w=>semX id k a w
 | .stop _ :: k,a,w=>semX id k a w
 | .marks _ :: k,a,w=>semX id k a w
def semQ(P:Program)(c:Cx)(n:Nat)(F:Act→World→Prop)(k:List Item):Exit→Act→World→Prop
 | .normal,a,w=>semT P c n F k a w
 | .exit id,a,w=>semT.semX P c n F id k a w
 | .ret,a,w=>F a w
 | _,_,_=>False
theorem semT_code{F:Act→World→Prop}{x:Code}{k:List Item}{a:Act}{w:World}(h:x.wp P (semQ P c n F k) a w):semT P c n F (.code x :: k) a w:=by
 unfold semT
 refine wp_mono h fun e a' w' he=>?_
 cases e<;>exact he
theorem of_semT{F:Act→World→Prop}{x:Code}{k:List Item}{a:Act}{w:World}(h:semT P c n F (.code x :: k) a w):x.wp P (semQ P c n F k) a w:=by
 unfold semT at h
 refine wp_mono h fun e a' w' he=>?_
 cases e<;>exact he
theorem exists_min{p:Nat→Prop}(h:∃m,p m):∃m,p m∧∀j,p j→m≤j:=by
 obtain ⟨m,hm⟩:=h
 induction m using Nat.strongRecOn with
 | _ m ih=>
  by_cases h:∃j,j<m∧p j
  ·obtain ⟨j,hj,hp⟩:=h;exact ih j hj hp
  ·exact ⟨m,hm,fun j hj=>Nat.le_of_not_lt fun hlt=>h ⟨j,hlt,hj⟩⟩
open Classical in
noncomputable def least (p:Nat→Prop):Nat:=if h:∃m,p m then Classical.choose (exists_min h) else 0
theorem least_spec{p:Nat→Prop}(h:∃m,p m):p (least p)∧∀j,p j→least p≤j:=by
 unfold least;rw[dif_pos h];exact Classical.choose_spec (exists_min h)
theorem sem_popTo{F:Act→World→Prop}(id:Nat):∀(k:List Item) (a:Act) (w:World),semT P c n F (popTo id k) a w→hasBlk id k=true→semT.semX P c n F id k a w
 | [],a,w,h,hx=>by simp[hasBlk]at hx
 | .blk i :: k,a,w,h,hx=>by
  unfold semT.semX
  by_cases e:i=id
  ·simpa [popTo,e] using h
  ·rw[if_neg e]
   exact sem_popTo id k a w (by simpa [popTo,e] using h) (by simpa [hasBlk,e] using hx)
 | .code _ :: k,a,w,h,hx=>by
  unfold semT.semX
  exact sem_popTo id k a w h (by simpa [hasBlk] using hx)
 | .stop _ :: k,a,w,h,hx=>by
  unfold semT.semX
  exact sem_popTo id k a w h (by simpa [hasBlk] using hx)
 | .marks _ :: k,a,w,h,hx=>by
  unfold semT.semX
  exact sem_popTo id k a w h (by simpa [hasBlk] using hx)
theorem condK_ok{s:St}{x:Operand}{A B:Prop}{ρ:Rho}{a:Act}{w:World}(h:Gam c n s ρ a w)(hc:condK (ev s x).val A B):∃t,a.eval x=.bool t∧(t=true→A)∧(t=false→B):=by
 unfold condK at hc
 split at hc
 ·rename_i g t hv
  exact ⟨t,val_is hv hc.1 (h.ev x),hc.2.1,hc.2.2⟩
 ·exact hc.elim
theorem dOK_of{ops:Array Oper}{m:Nat}(h:(ops.toList.all fun o=>match o.dst with|some d=>decide (d<n)|none=>true)=true):∀o∈ops.toList,dOK n o.dst:=fun o ho=>by
 have:=List.all_eq_true.1 h o ho
 cases hd:o.dst with
 | none=>trivial
 | some d=>rw[hd]at this;simpa [dOK] using this
theorem drewn{s:St}{a:Act}{w:World}(h:Ga c n s a w):Ga c n s a {w with drawn:=w.drawn+1}:=by
 obtain ⟨ρ,g⟩:=h
 exact ⟨ρ,{df:=g.df,sz:=g.sz,env:=g.env,hp:=fun k T cs b hk hb=>by obtain ⟨⟨arr,r⟩,h2⟩:=g.hp k T cs b hk hb;exact ⟨⟨arr,r.there,r.size,r.le,r.is⟩,h2⟩,no:=g.no,inj:=g.inj,os:=g.os,tape:=g.tape,output:=g.output,size:=g.size,block:=g.block,sub:=g.sub,le:=g.le,mf:=g.mf,fix:=g.fix,fx:=g.fx,kl:=g.kl,fr:=g.fr}⟩
theorem vc_ok(hmx:P.follows .mixedOrders=true)(hcx:CxOK c){R:St→Prop}{F:Act→World→Prop}(hF:∀s a w,R s→Ga c n s a w→F a w) :
  ∀(m:Nat) (k:List Item),isize k≤m→∀(s:St) (a:Act) (w:World),itemsOK n k→Ga c n s a w→vc P R k s→semT P c n F k a w:=by
 intro m
 induction m with
 | zero=>
  intro k hk s a w hi hg hv
  cases k with
  | nil=>unfold vc at hv;unfold semT;exact hF s a w hv hg
  | cons x r=>cases x<;>simp[isize]at hk
 | succ m ih=>
  intro k hk s a w hi hg hv
  match k,hk,hi,hv with
  | [],hk,hi,hv=>unfold vc at hv;unfold semT;exact hF s a w hv hg
  | .blk i :: k,hk,hi,hv=>
   unfold vc at hv;unfold semT
   exact ih k (by simp only[isize]at hk;omega) s a w hi hg hv
  | .stop J :: k,hk,hi,hv=>unfold vc at hv;unfold semT;exact ⟨s,hv,hg⟩
  | .marks l :: k,hk,hi,hv=>
   unfold vc at hv;unfold semT
   exact ih k (by simp only[isize]at hk;omega) s a w hi hg hv
  | .code x :: k,hk,hi,hv=>
   obtain ⟨hx,hi⟩:=hi
   cases x with
   | skip=>
    unfold vc at hv
    exact semT_code (wp_skip (ih k (by simp only[isize,csize]at hk;omega) s a w hi hg hv))
   | label l=>
    unfold vc at hv
    exact semT_code (wp_label (ih k (by simp only[isize,csize]at hk;omega) s a w hi hg hv))
   | seq x y=>
    unfold vc at hv
    simp only[codeOK,Bool.and_eq_true]at hx
    refine semT_code (wp_seq ?_)
    cases hcut:cutO k (headId y) with
    | true=>
     rw[hcut]at hv
     obtain ⟨J,hA,hB⟩:=hv
     have h1:=of_semT (ih (.code x :: .stop (fun s=>∃z,Le s z∧J z) :: .code y :: k) (by simp only[isize,csize]at hk ⊢;omega) s a w ⟨hx.1,hx.2,hi⟩ hg hA)
     refine wp_mono h1 fun e a' w' he=>?_
     cases e with
     | normal=>
      unfold semQ at he;unfold semT at he
      obtain ⟨s2,⟨z2,hle2,hJ2⟩,ρ2,hg2⟩:=he
      obtain ⟨z3,hg3,hv3⟩:=hB z2 hJ2 c n a' w' hcx (hle2 c n ρ2 a' w' hg2)
      exact of_semT (ih (.code y :: k) (by simp only[isize,csize]at hk ⊢;omega) z3 a' w' ⟨hx.2,hi⟩ hg3 hv3)
     | exit id=>
      have he:semT.semX P c n F id (.stop (fun s=>∃z,Le s z∧J z) :: .code y :: k) a' w':=he
      unfold semT.semX at he
      unfold semT.semX at he
      exact he
     | ret=>exact he
     | goto l=>exact he
     | panic ch=>exact he
     | outgrown=>exact he
    | false=>
    rw[hcut]at hv
    have hv:vc P R (.code x :: .code y :: k) s:=hv
    have h1:=of_semT (ih (.code x :: .code y :: k) (by simp only[isize,csize]at hk ⊢;omega) s a w ⟨hx.1,hx.2,hi⟩ hg hv)
    refine wp_mono h1 fun e a' w' he=>?_
    cases e with
    | normal=>exact of_semT he
    | exit id=>
     have he:semT.semX P c n F id (.code y :: k) a' w':=he
     unfold semT.semX at he
     exact he
    | ret=>exact he
    | goto l=>exact he
    | panic ch=>exact he
    | outgrown=>exact he
   | block id x=>
    unfold vc at hv
    refine semT_code (wp_block ?_)
    have h1:=of_semT (ih (.code x :: .blk id :: k) (by simp only[isize,csize]at hk ⊢;omega) s a w ⟨hx,hi⟩ hg hv)
    refine wp_mono h1 fun e a' w' he=>?_
    cases e with
    | normal=>unfold semQ at he;unfold semT at he;exact he
    | exit id'=>
     have he:semT.semX P c n F id' (.blk id :: k) a' w':=he
     unfold semT.semX at he
     simp only[Exit.inBlock]
     by_cases e:id=id'
     ·subst e;rw[if_pos rfl]at he;rw[if_pos rfl];exact he
     ·rw[if_neg e]at he;rw[if_neg (fun e2=>e e2.symm)];exact he
    | ret=>exact he
    | goto l=>exact he
    | panic ch=>exact he
    | outgrown=>exact he
   | exit id=>
    unfold vc at hv
    refine semT_code (wp_exit ?_)
    exact sem_popTo id k a w (ih (popTo id k) (by have:=isize_pop id k;simp only[isize,csize]at hk;omega) s a w (itemsOK_pop n id k hi) hg hv.2) hv.1
   | ret=>
    unfold vc at hv
    exact semT_code (wp_ret (hF s a w hv hg))
   | cond x y z=>
    unfold vc at hv
    simp only[codeOK,Bool.and_eq_true]at hx
    obtain ⟨ρ,g⟩:=hg
    obtain ⟨t,ht,h1,h2⟩:=condK_ok g hv
    refine semT_code (wp_cond_split ht (fun e=>?_) (fun e=>?_))
    ·exact of_semT (ih (.code y :: k) (by simp only[isize,csize]at hk ⊢;omega) s a w ⟨hx.1,hi⟩ ⟨ρ,g⟩ (h1 e))
    ·exact of_semT (ih (.code z :: k) (by simp only[isize,csize]at hk ⊢;omega) s a w ⟨hx.2,hi⟩ ⟨ρ,g⟩ (h2 e))
   | region id ops d=>
    unfold vc at hv
    have hd:=dOK_of (m:=0) hx
    have hnext:∀s' a' w',vc P R k s'→Ga c n s' a' w'→semQ P c n F k .normal a' w':=fun s' a' w' hv' hg'=>
     ih k (by simp only[isize,csize]at hk;omega) s' a' w' hi hg' hv'
    cases d with
    | false=>
     refine semT_code (wp_region_list ?_)
     exact runOps_ok (P:=P) hnext ops.toList s a w hd hg hv
    | true=>
     refine semT_code (wp_region_any hmx ?_)
     exact hv c n a _ _ hd (drewn hg) hnext
   | loop x=>
    unfold vc at hv
    obtain ⟨I,⟨m0,z0,hle0,h0⟩,hI⟩:=hv
    have hg0:Ga c n z0 a w:=by obtain ⟨ρ,g⟩:=hg;exact hle0 c n ρ a w g
    refine semT_code (wp_loop (fun a w=>∃m s,I m s∧Ga c n s a w) (fun a w=>least fun m=>∃s,I m s∧Ga c n s a w) ⟨m0,z0,h0,hg0⟩ ?_)
    intro a' w' hIa
    obtain ⟨hmin,_⟩:=least_spec hIa
    generalize least (fun m=>∃s,I m s∧Ga c n s a' w')=mm at hmin ⊢
    obtain ⟨s',hs',hg'⟩:=hmin
    have h1:=of_semT (ih (.code x :: .stop (fun s''=>∃m' z,m'<mm∧Le s'' z∧I m' z) :: k) (by simp only[isize,csize]at hk ⊢;omega) s' a' w' ⟨hx,hi⟩ hg' (hI mm s' hs'))
    refine wp_mono h1 fun e a2 w2 he=>?_
    cases e with
    | normal=>
     unfold semQ at he;unfold semT at he
     obtain ⟨s2,⟨m2,z2,hlt,hle2,hI2⟩,ρ2,hg2⟩:=he
     have hg3:Ga c n z2 a2 w2:=hle2 c n ρ2 a2 w2 hg2
     refine ⟨⟨m2,z2,hI2,hg3⟩,?_⟩
     exact Nat.lt_of_le_of_lt ((least_spec (p:=fun m=>∃s,I m s∧Ga c n s a2 w2) ⟨m2,z2,hI2,hg3⟩).2 m2 ⟨z2,hI2,hg3⟩) hlt
    | exit id=>
     have he:semT.semX P c n F id (.stop (fun s''=>∃m' z,m'<mm∧Le s'' z∧I m' z) :: k) a2 w2:=he
     unfold semT.semX at he
     exact he
    | ret=>exact he
    | goto l=>exact he
    | panic ch=>exact he
    | outgrown=>exact he
   | rangeFunc f p x y=>unfold vc at hv;exact hv.elim
   | scope x=>
    unfold vc at hv
    refine semT_code (wp_scope_straight ?_)
    have h1:=of_semT (ih (.code x :: k) (by simp only[isize,csize]at hk ⊢;omega) s a w ⟨hx,hi⟩ hg hv)
    refine wp_mono h1 fun e a' w' he=>?_
    cases e<;>exact he
   | goto l=>unfold vc at hv;exact hv.elim
   | refuse y=>unfold vc at hv;exact hv.elim
end
end Go.Proofs.Ytjapnklocibgaaa.Sx
