import Derived.Test.YtdkfkpbijdimkaaGreatLawCheck
set_option linter.unusedVariables false
set_option linter.unusedSimpArgs false
namespace Go.Proofs.YtdkfkpbijdimkaaGreat
open Go Go.Sim
set_option linter.unusedSectionVars false
variable [Fu]
theorem gD {α:Type} (xs:List α):(xs.map (bOne (α:=α))).sum=xs.length:=by
 induction xs with
 |nil=>rfl
 |cons x xs ih=>simp[bOne] at ih⊢;omega
theorem gY {w:aa} (hg:cW w) (hb:bw w≤1048576):bQ w:=by
 obtain⟨h1,⟨h2,h3⟩,_⟩:=hg
 have hsum:(bj w).length+w.Epochs.length≤(w.Epochs.map bi).sum:=by
  have:∀es:List az,(∀e∈es,cE e)→(es.flatMap (·.Tags)).length+es.length≤(es.map bi).sum:=by
   intro es hes
   induction es with
   |nil=>simp
   |cons e es ih=>
    have i1:=ih fun x hx=>hes x (by simp[hx])
    obtain⟨_,⟨g2,_⟩,_⟩:=hes e (by simp)
    have h16:e.Tags.length≤(e.Tags.map (bArr bOne)).sum:=by
     have:∀ts:List (List Int),(∀t∈ts,gArr 16 (gInt .u8) t)→ts.length≤(ts.map (bArr bOne)).sum:=by
      intro ts hts
      induction ts with
      |nil=>simp
      |cons t ts ih2=>
       have i2:=ih2 fun x hx=>hts x (by simp[hx])
       have i3:=(hts t (by simp)).2
       have:bArr bOne t=t.length:=gD t
       simp only[List.map_cons,List.sum_cons,List.length_cons,this];omega
     exact this _ g2
    have hbe:bi e=bOne e.Number+(bSl (bArr bOne) e.Tags+0):=rfl
    have hb2:bSl (bArr bOne) e.Tags=(e.Tags.map (bArr bOne)).sum+1:=rfl
    simp only[List.flatMap_cons,List.length_append,List.map_cons,List.sum_cons,List.length_cons,hbe,hb2]
    omega
  exact this _ h2
 have hbw:bw w=bOne w.Newest+(((w.Epochs.map bi).sum+1)+0):=rfl
 refine⟨h1,fun e he=>(h2 e he).1,fun t ht=>?_,by unfold lenOf;omega,by omega⟩
 obtain⟨e,he,het⟩:=List.mem_flatMap.1 ht
 obtain⟨_,⟨g2,_⟩,_⟩:=h2 e he
 exact⟨(g2 t het).2,fun b hb=>(g2 t het).1 b hb⟩
theorem fL (a b c:Int):ao a b c=aj a b c:=by simp[ao,aj]
theorem gi (c:af):bc c=aW c:=by simp only[bc,aW,fL]
theorem gj (c:af):∃b,bc c=some b:=by
 have hw:∀x y z,∃b,ao x y z=some b:=fun x y z=>⟨_,rfl⟩
 unfold bc
 have step:∀(q:Bool) (x y z:Int) (k:Bool→Option Bool),(∀b,∃r,k b=some r)→∃r,((bif q then(ao x y z).bind fun y=>some y else some false:Option Bool)).bind k=some r:=by
  intro q x y z k hk
  obtain⟨b,hb⟩:=hw x y z
  cases q with
  |true=>simpa[hb] using hk b
  |false=>simpa using hk false
 refine step _ _ _ _ _ fun _=>?_
 refine step _ _ _ _ _ fun _=>?_
 refine step _ _ _ _ _ fun _=>?_
 refine step _ _ _ _ _ fun _=>?_
 refine step _ _ _ _ _ fun _=>?_
 refine step _ _ _ _ _ fun _=>?_
 refine step _ _ _ _ _ fun _=>?_
 refine step _ _ _ _ _ fun _=>?_
 refine step _ _ _ _ _ fun _=>?_
 refine step _ _ _ _ _ fun _=>?_
 exact⟨_,rfl⟩
theorem dM {α:Type} {xs:List α} (h:xs.length≤1048576):app [] xs=some xs:=by
 rw[dg (by simp[room];omega)];rfl
theorem gP {w:aa} (hw:bQ w):ba w.Epochs=some w.Epochs:=by
 have:=hw.eps
 simp only[ba,dM this,Option.bind_some]
theorem gl {w:aa} (hw:bQ w) {i:Nat} (h:i<w.Epochs.length):bt w.Epochs[i].Tags=some w.Epochs[i].Tags:=by
 have h1:=hw.len
 have h2:=fM (w:=w) h
 simp only[bt,dM (show w.Epochs[i].Tags.length≤1048576 by omega),Option.bind_some]
theorem fg {s:ab} (hw:bQ s.Window):aY s=some s:=by
 have he:=hw.eps
 unfold aY
 rw[gP hw]
 simp only[Option.bind_some]
 rw[cG (s0:=((0:Int),s.Window.Epochs)) (fun i=>((i:Int),s.Window.Epochs)) s.Window.Epochs.length (fun _=>true) s s ?_ ?_ rfl]
 · rw[cb.2 (fun _ _ _=>rfl)];rfl
 · intro i hi
   have h1:(i:Int)<(s.Window.Epochs.length:Int):=by omega
   simp only[h1,decide_true,cond_true,aJ hi,Option.bind_some,gl hw hi,Int.toNat_natCast]
   rw[wrap64 (by omega)]
   have:s.Window.Epochs.set i {s.Window.Epochs[i] with Tags:=s.Window.Epochs[i].Tags}=s.Window.Epochs:=List.set_getElem_self hi
   rw[this]
   rfl
 · simp
theorem fA {w:aa} (hw:bQ w) {i:Nat} (h:i<w.Epochs.length):aI w.Epochs[i] w.Epochs[i]=some true:=by
 have h1:=hw.len
 have h2:=fM (w:=w) h
 generalize w.Epochs[i]=e at*
 unfold aI
 simp only[bne_self_eq_false,Bool.or_self,cond_false]
 rw[cG (s0:=(0:Int)) (fun i=>(i:Int)) e.Tags.length (fun _=>true) (.inl ()) (.inl ()) ?_ ?_ rfl]
 · rw[cb.2 (fun _ _ _=>rfl)];rfl
 · intro i hi
   have h1:(i:Int)<(e.Tags.length:Int):=by omega
   simp only[h1,decide_true,cond_true,aJ hi,Option.bind_some,bne_self_eq_false,cond_false]
   rw[wrap64 (by omega)]
   rfl
 · simp
theorem cL {s:ab} (hw:bQ s.Window):aC s s=some true:=by
 have he:=hw.eps
 unfold aC
 simp only[bne_self_eq_false,Bool.or_self,cond_false]
 rw[cG (s0:=(0:Int)) (fun i=>(i:Int)) s.Window.Epochs.length (fun _=>true) (.inl ()) (.inl ()) ?_ ?_ rfl]
 · rw[cb.2 (fun _ _ _=>rfl)];rfl
 · intro i hi
   have h1:(i:Int)<(s.Window.Epochs.length:Int):=by omega
   simp only[h1,decide_true,cond_true,aJ hi,Option.bind_some,fA hw hi,Bool.not_true,cond_false]
   rw[wrap64 (by omega)]
   rfl
 · simp
theorem fh {c:af} {s:ab} (good:bQ s.Window):aM c s=aT c s:=by
 unfold aM aT
 rw[gi]
 simp only[fK good]
theorem ep {c:af} {s:ab} (good:bQ s.Window):∃q,aT c s=some q:=by
 obtain⟨b,hb⟩:=gj c
 unfold aT
 rw[hb,dG good]
 simp only[Option.bind_some]
 generalize (c1 c.Span c.Room&&c2 s.Window c.Room&&c3 s.Window&&co (okW s.Window c.Span) s.Window.Epochs.length 0)=z
 cases (!b||decide (s.Next<0)||decide (s.Next>4611686018427387904))<;>cases z<;>exact⟨_,rfl⟩
def gZ (c:af) (s:ab) (q:Int):Option am×Int:=
 bif q != 0 then(none,q) else(some ⟨c,s,[]⟩,0)
theorem gE {c:af} {s:ab} {q:Int} (good:bQ s.Window) (hm:c.Master.length≤1048576) (hq:aT c s=some q):
  aR c s=some (gZ c s q):=by
 unfold aR gZ
 simp only[hq,Option.bind_some,cj,dM hm,fg good]
 cases q != 0<;>rfl
theorem er {c:af} {s:ab} (good:bQ s.Window):aD (some ⟨c,s,[]⟩)=some s:=by
 unfold aD
 simp only[Option.isNone_some,cond_false,Option.bind_some,fg good]
theorem good0:bQ (⟨0,[]⟩:aa):=⟨⟨by decide,by decide⟩,by simp,by simp[bj],by simp[lenOf,bj],by simp⟩
theorem gQ (aw:aV=some true) (c:af) (s:ab) (hc:cV c) (hs:dm s) (hb:bY c+cm s≤1048576):aF c s=some true:=by
 obtain⟨hn,hw,_⟩:=hs
 have hbs:cm s=bOne s.Next+(bw s.Window+0):=rfl
 have good:=gY hw (by omega)
 have hm:c.Master.length≤1048576:=by
  have h1:bY c=((c.Master.map (bOne (α:=Int))).sum+1)+(bOne c.Left+(bOne c.Span+(bOne c.Room+(bOne c.Num+(bOne c.Den+(bOne c.Noise+(bOne c.Chunks+(bOne c.Workers+(bOne c.Cap+(bOne c.Shards+0)))))))))):=rfl
  rw[gD] at h1
  omega
 obtain⟨q,hq⟩:=ep (c:=c) good
 obtain⟨p,hp⟩:=ep (c:=c) (s:=⟨0,⟨0,[]⟩⟩) good0
 unfold aF
 simp only[aw,Option.bind_some,Bool.not_true,cond_false,gE good hm hq,fh good,hq,bD,gE (s:=⟨0,⟨0,[]⟩⟩) good0 hm hp,fh (s:=⟨0,⟨0,[]⟩⟩) good0,hp]
 unfold gZ
 cases h:q != 0 with
 |true=>
  have h0:(q==0)=false:=by simpa[bne] using h
  simp only[cond_true,h,h0,Option.isNone_none,bne_self_eq_false,Bool.or_self,cond_false,Option.bind_some]
  cases h2:p != 0 with
  |true=>simp only[cond_true,h2,Option.isNone_none,bne_self_eq_false,Bool.or_self,cond_false,Option.bind_some]
  |false=>
   have hp0:p=0:=by simpa[bne] using h2
   subst hp0
   simp only[cond_false,Option.isNone_some,bne_self_eq_false,Bool.or_self,Option.bind_some,er (s:=⟨0,⟨0,[]⟩⟩) good0,cL (s:=⟨0,⟨0,[]⟩⟩) good0]
 |false=>
  have hq0:q=0:=by simpa[bne] using h
  subst hq0
  simp only[cond_false,Option.isNone_some,bne_self_eq_false,Bool.or_self,beq_self_eq_true,cond_true,Option.bind_some,er good,cL good,Bool.not_true]
  cases h2:p != 0 with
  |true=>simp only[cond_true,h2,Option.isNone_none,bne_self_eq_false,Bool.or_self,cond_false,Option.bind_some]
  |false=>
   have hp0:p=0:=by simpa[bne] using h2
   subst hp0
   simp only[cond_false,Option.isNone_some,bne_self_eq_false,Bool.or_self,Option.bind_some,er (s:=⟨0,⟨0,[]⟩⟩) good0,cL (s:=⟨0,⟨0,[]⟩⟩) good0]
end Go.Proofs.YtdkfkpbijdimkaaGreat
