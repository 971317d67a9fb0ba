import Derived.Test.YtobbmodjdkcdcaaGreatDoorLawPlaces
set_option linter.unusedVariables false
set_option linter.unusedSimpArgs false
set_option linter.unusedSectionVars false
set_option maxRecDepth 20000
set_option maxHeartbeats 1000000
namespace Go.Proofs.YtobbmodjdkcdcaaGreatDoor
open Go Go.Sim
variable [Fu]
def eR (cells:List (List Int)) (pl:List Nat):List (List Int):=(List.range cells.length).map fun k=>if k∈pl then(cells.getD k []).take 16 else List.replicate 16 0
def ni (p:List Int) (pl:List Nat):List Int:=p.map fun o=>if o<(pl.length:Int) then((pl.getD o.toNat 0:Nat):Int) else -1
theorem jY (cells:List (List Int)) (pl:List Nat):(eR cells pl).length=cells.length:=by simp[eR]
theorem yv (cells:List (List Int)) (pl:List Nat) {i:Nat} (hi:i<pl.length) (hk:pl.getD i 0<cells.length):
   (eR cells (pl.take i)).set (pl.getD i 0) ((cells.getD (pl.getD i 0) []).take 16)=eR cells (pl.take (i+1)):=by
 apply List.ext_getElem (by simp[eR])
 intro j h1 h2
 have ht:pl.take (i+1)=pl.take i++[pl.getD i 0]:=by rw[List.take_succ_eq_append_getElem hi];simp[hi]
 rw[List.getElem_set]
 simp only[eR,List.getElem_map,List.getElem_range,ht,List.mem_append,List.mem_singleton]
 by_cases e:pl.getD i 0=j
 · subst e;rw[if_pos rfl,if_pos (.inr rfl)]
 · rw[if_neg e]
   by_cases m:j∈pl.take i
   · rw[if_pos m,if_pos (.inl m)]
   · rw[if_neg m,if_neg (by rintro(h|h);exact m h;exact e h.symm)]
theorem yw (cells:List (List Int)):eR cells []=List.replicate cells.length (List.replicate 16 0):=by
 apply List.ext_getElem (by simp[eR])
 intro j h1 h2
 simp[eR]
theorem over16 {x y:List Int} (hx:x.length=16) (hy:y.length=320):over x 0 16 y=y.take 16:=by
 unfold over
 have h1:x.drop (0+min y.length (16 - 0))=[]:=List.drop_eq_nil_of_le (by omega)
 rw[h1];simp
theorem Ap {cells:List (List Int)} {pl:List Nat} {k:Nat} (hk:k<cells.length) (h:Good320 cells):((eR cells pl).getD k []).length=16:=by
 have hl:k<(eR cells pl).length:=by rw[jY];exact hk
 simp only[List.getD,List.getElem?_eq_getElem hl,Option.getD_some]
 simp only[eR,List.getElem_map,List.getElem_range]
 have hc:(cells.getD k []).length=320:=by
   simp only[List.getD,List.getElem?_eq_getElem hk,Option.getD_some];exact(h _ (List.getElem_mem hk)).1
 split
 · rw[List.length_take,hc];rfl
 · simp
noncomputable def memS (c:am) (b:aE) (pl:List Nat) (p:List Int):aN:=⟨{b.Header with Left:=IntKind.wrap .i64 (c.Left - 1)},(b.Cells.length:Int),ni p pl,eR b.Cells pl⟩
theorem uM {c:am} {w:aa} {b:aE} {acc:List an} {rep:ai} (h:pg c w b=(acc,rep,0)):
  (keyS c.Master b.Header.Epoch).2=0∧acc=(bd c w b).map (fun k=>(cU c b k).1):=by
 obtain⟨r,hr⟩:=lF c
 unfold pg at h
 rw[hr,Option.getD_some] at h
 cases r with
 |false=>simp at h
 |true=>
  rw[Bool.not_true,cond_false] at h
  cases hk:(keyS c.Master b.Header.Epoch).2 != 0 with
  |true=>
   rw[hk,cond_true] at h
   have e:(keyS c.Master b.Header.Epoch).2=0:=(Prod.mk.inj (Prod.mk.inj h).2).2
   rw[e] at hk;cases hk
  |false=>
   rw[hk,cond_false] at h
   obtain⟨e1,_⟩:=Prod.mk.inj h
   refine⟨by simpa using hk,?_⟩
   rw[←e1]
   exact uS (cU c b) w b.Cells.length b.Cells.length
theorem nY {c:am} {w:aa} {b:aE} {i:Nat} (hi:i<(bd c w b).length):(bd c w b).getD i 0<b.Cells.length∧okS (cU c b) ((bd c w b).getD i 0)=true:=by
 have e:(bd c w b).getD i 0=(bd c w b)[i]:=by simp[hi]
 rw[e]
 exact yU (cU c b) w b.Cells.length _ (List.getElem_mem hi)
theorem vL {c:am} {s:aq} {raw tape:List Int} (hw:dt s.Window) (hs:gInt .i64 c.Span) (hr:raw.length≤2^21) (hrb:aS raw) (ht:tape.length≤2^21) (htb:aS tape):
   ∃ o m, gw c s raw tape = some o ∧ fE c s raw tape = some (o, m) ∧
     ((yP s raw o∧m=⟨⟨0,0,0⟩,0,[],[]⟩)∨(BB c s raw tape o∧∀b a,cc raw=some (b,a,0)→
       m=memS c b (bd c (da s.Window b.Header.Epoch c.Span).1 b) (cW tape (((bd c (da s.Window b.Header.Epoch c.Span).1 b).length:Int)+o.Report.Noise) c.Chunks).1)):=by
 obtain⟨o,ho,hcase⟩:=AC (c:=c) hw hs hr hrb ht htb
 unfold fE
 rw[ho]
 simp only[ae]
 rcases hcase with bad|ok
 · rw[zw bad.err,cond_true]
   exact⟨o,_,rfl,rfl,.inl ⟨bad,rfl⟩⟩
 · have ok':=ok
   obtain⟨b,a,acc,rep,cells,w2,hrd,hinv,hlen,h320,hleft,hnext,hck,h5,hsift,hcov,hsh,htags,hacc,hadd,hpk,heq⟩:=ok
   obtain⟨v1,v2,v3,v4,v5,v6,v7,v8⟩:=ng hcov
   obtain⟨hk,hpl⟩:=uM hsift
   have hgE:gInt .i64 b.Header.Epoch:=by
     show -9223372036854775808≤b.Header.Epoch∧b.Header.Epoch≤9223372036854775807
     have:=hinv.2.2;omega
   have herr:o.Err=0:=by rw[heq]
   have hno:o.Report.Noise=(dp c tape).1:=by rw[heq]
   rw[herr,hrd]
   simp only[bne_self_eq_false,cond_false,ae]
   rw[rh hw hgE]
   simp only[ae]
   rw[xx (oh hw hgE).small (fun x hx=>(h320 x hx).2) hlen hk]
   simp only[ae]
   have hrg:=fun i (hi:i<(bd c (da s.Window b.Header.Epoch c.Span).1 b).length)=>nY hi
   have hplen:(bd c (da s.Window b.Header.Epoch c.Span).1 b).length=acc.length:=by rw[hpl,List.length_map]
   obtain⟨s1,s2,s3,s4⟩:=nj hsh
   have hcl:(cells.length:Int)=((bd c (da s.Window b.Header.Epoch c.Span).1 b).length:Int)+o.Report.Noise:=by
     rw[hplen,hno,v4,List.length_append,List.length_map];omega
   have hfit:∀i,i<(cW tape (((bd c (da s.Window b.Header.Epoch c.Span).1 b).length:Int)+o.Report.Noise) c.Chunks).1.length→0≤(cW tape (((bd c (da s.Window b.Header.Epoch c.Span).1 b).length:Int)+o.Report.Noise) c.Chunks).1.getD i 0∧(cW tape (((bd c (da s.Window b.Header.Epoch c.Span).1 b).length:Int)+o.Report.Noise) c.Chunks).1.getD i 0<(cW tape (((bd c (da s.Window b.Header.Epoch c.Span).1 b).length:Int)+o.Report.Noise) c.Chunks).1.length:=by
     rw[←hcl];exact fun i hi=>pa s3 hi
   have hmem:∀m,(∀b' a',cc raw=some (b',a',0)→b'=b)→m=memS c b (bd c (da s.Window b.Header.Epoch c.Span).1 b) (cW tape (((bd c (da s.Window b.Header.Epoch c.Span).1 b).length:Int)+o.Report.Noise) c.Chunks).1→∀b' a',cc raw=some (b',a',0)→
       m=memS c b' (bd c (da s.Window b'.Header.Epoch c.Span).1 b') (cW tape (((bd c (da s.Window b'.Header.Epoch c.Span).1 b').length:Int)+o.Report.Noise) c.Chunks).1:=fun m h1 h2 b' a' h3=>by rw[h1 b' a' h3];exact h2
   have huni:∀b' a',cc raw=some (b',a',0)→b'=b:=fun b' a' h=>by rw[hrd] at h;cases h;rfl
   have hol:=oa (n:=(((bd c (da s.Window b.Header.Epoch c.Span).1 b).length:Int)+o.Report.Noise)) (c:=c.Chunks) htb
   generalize bd c (da s.Window b.Header.Epoch c.Span).1 b=pl at*
   rw[List.length_map,wrap64 (by omega),pf htb (by omega)]
   simp only[ae]
   generalize (cW tape ((pl.length:Int)+o.Report.Noise) c.Chunks).1=p at*
   rw[mt (by omega),cond_true,Int.toNat_natCast]
   rw[aV (s0:=((0:Int),List.replicate b.Cells.length (List.replicate 16 (0:Int)))) (r:=eR b.Cells pl) (fun i=>((i:Int),eR b.Cells (pl.take i))) 0 pl.length (Nat.zero_le _) ?_ ?_ ?_]
   · simp only[ae]
     rw[aV (s0:=((0:Int),([]:List Int))) (r:=memS c b pl p) (fun i=>((i:Int),(List.range i).map (fun i=>if p.getD i 0<(pl.length:Int) then((pl.getD (p.getD i 0).toNat 0:Nat):Int) else -1))) 0 p.length (Nat.zero_le _) ?_ ?_ rfl]
     · simp only[ae]
       exact⟨o,_,rfl,rfl,.inr ⟨ok',fun b' a' h=>hmem _ huni rfl b' a' (hrd.trans h)⟩⟩
     · intro i _ hi
       have h1:decide ((i:Int)<(p.length:Int))=true:=decide_eq_true (by omega)
       simp only[h1,cond_true]
       rw[aK (i:=i) rfl (by omega)]
       simp only[ae]
       obtain⟨f1,f2⟩:=hfit i hi
       rw[←eb]
       by_cases hc:p.getD i 0<(pl.length:Int)
       · rw[decide_eq_true hc,cond_true,if_pos hc]
         generalize p.getD i 0=z at*
         obtain⟨k,rfl⟩:∃k:Nat,z=k:=⟨z.toNat,by omega⟩
         have e:(pl.map (fun k:Nat=>(k:Int))).getD k 0=((pl.getD k 0:Nat):Int):=by
          have:k<pl.length:=by omega
          simp[this]
         rw[aK (i:=k) rfl (by rw[List.length_map];omega),e]
         simp only[ae]
         rw[bj (by rw[dT];simp;omega)]
         simp only[ae,Int.toNat_natCast]
         rw[wrap64 (by omega)];rfl
       · rw[decide_eq_false hc,cond_false,if_neg hc]
         rw[bj (by rw[dT];simp;omega)]
         simp only[ae]
         rw[wrap64 (by omega)];rfl
     · have h1:decide ((p.length:Int)<(p.length:Int))=false:=decide_eq_false (by omega)
       simp only[h1,cond_false]
       have e:(List.range p.length).map (fun i=>if p.getD i 0<(pl.length:Int) then((pl.getD (p.getD i 0).toNat 0:Nat):Int) else -1)=ni p pl:=qm 0 (fun o:Int=>if o<(pl.length:Int) then((pl.getD o.toNat 0:Nat):Int) else -1) p
       rw[e]
       rfl
   · intro i _ hi
     have h1:decide ((i:Int)<(pl.length:Int))=true:=decide_eq_true (by omega)
     obtain⟨g1,g2⟩:=hrg i hi
     have e:(pl.map (fun k:Nat=>(k:Int))).getD i 0=((pl.getD i 0:Nat):Int):=by simp[hi]
     simp only[h1,cond_true]
     rw[aK (i:=i) rfl (by rw[List.length_map];omega),e]
     simp only[ae]
     rw[←yv b.Cells pl hi g1]
     generalize pl.getD i 0=k at*
     rw[cS [] (i:=k) rfl (by rw[jY];omega),cS [] (i:=k) rfl g1]
     simp only[ae]
     have h16:((eR b.Cells (pl.take i)).getD k []).length=16:=Ap (by omega) h320
     have hcl:(b.Cells.getD k []).length=320:=by
       have:b.Cells.getD k []∈b.Cells:=by simp only[List.getD,List.getElem?_eq_getElem g1,Option.getD_some];exact List.getElem_mem g1
       exact(h320 _ this).1
     have hd:decide ((Int.toNat 0)≤(Int.toNat 16)∧(Int.toNat 16)≤16)=true:=rfl
     rw[hd,cond_true,wrap64 (by omega),Int.toNat_natCast]
     have hov:=over16 h16 hcl
     show some (Ctl.next ((i:Int)+1,(eR b.Cells (pl.take i)).set k (over ((eR b.Cells (pl.take i)).getD k []) 0 16 (b.Cells.getD k []))))=_
     rw[hov];rfl
   · have h1:decide ((pl.length:Int)<(pl.length:Int))=false:=decide_eq_false (by omega)
     simp only[List.length_map,h1,cond_false,List.take_length]
   · rw[List.take_zero,yw];rfl
end Go.Proofs.YtobbmodjdkcdcaaGreatDoor
