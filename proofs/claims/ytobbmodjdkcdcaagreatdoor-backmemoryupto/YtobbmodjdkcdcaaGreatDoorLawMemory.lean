import Derived.Test.YtobbmodjdkcdcaaGreatDoorLawForward
import Derived.Test.YtobbmodjdkcdcaaGreatDoorLawChecksM
set_option linter.unusedVariables false
set_option linter.unusedSimpArgs false
set_option linter.unusedSectionVars false
set_option maxRecDepth 20000
set_option maxHeartbeats 1000000
namespace Go.Proofs.YtobbmodjdkcdcaaGreatDoor
open Go Go.Sim
variable [Fu]
theorem pigeon:∀(k:Nat) (a:Int) (l:List Int),l.Nodup→(∀x∈l,a≤x∧x<a+(k:Int))→l.length≤k
 |0,a,l,_,h=>by
  cases l with
  |nil=>simp
  |cons x l=>have:=h x (by simp);omega
 |k+1,a,l,hn,h=>by
  by_cases hv:(a+(k:Int))∈l
  · have h1:=pigeon k a (l.erase (a+(k:Int))) (hn.erase _) (fun x hx=>by
     have:=(hn.mem_erase_iff).1 hx
     have:=h x this.2
     have:x≠a+(k:Int):=by omega
     omega)
    rw[List.length_erase_of_mem hv] at h1
    omega
  · have h1:=pigeon k a l hn (fun x hx=>by
     have:=h x hx
     have:x≠a+(k:Int):=fun e=>hv (e▸hx)
     omega)
    omega
theorem sW {p:List Int} (h:mn p=true):p.Nodup:=by
 unfold List.Nodup
 rw[List.pairwise_iff_getElem]
 intro i j hi hj hij
 have:=dO.1 h j (Nat.zero_le _) (by omega)
 unfold fitP at this
 simp only[Bool.and_eq_true,Bool.not_eq_true',List.elem_eq_mem,decide_eq_false_iff_not] at this
 intro e
 apply this.2
 have ej:p.getD j 0=p[j]:=by simp[hj]
 rw[ej,←e]
 exact List.mem_take_iff_getElem.2 ⟨i,by omega,rfl⟩
theorem xk {α:Type} {l:List α} (h:l.Nodup) {i j:Nat} (hi:i<l.length) (hj:j<l.length) (d:α) (e:l.getD i d=l.getD j d):i=j:=by
 have e:l[i]=l[j]:=by simpa only[List.getD,List.getElem?_eq_getElem hi,List.getElem?_eq_getElem hj,Option.getD_some] using e
 have hp:=List.pairwise_iff_getElem.1 h
 rcases Nat.lt_trichotomy i j with a|a|a
 · exact absurd e (hp i j hi hj a)
 · exact a
 · exact absurd e.symm (hp j i hj hi a)
def lL (p:List Int) (m:Nat) (i:Nat):Nat:=(p.take i).countP (fun o=> !decide (o<(m:Int)))
theorem Az {p:List Int} {m:Nat} (h:mn p=true) (hm:m≤p.length):lL p m p.length=p.length - m:=by
 unfold lL
 rw[List.take_length]
 have hn:=sW h
 have hr:∀x∈p,0≤x∧x<(p.length:Int):=fun x hx=>by
  obtain⟨i,hi,rfl⟩:=List.mem_iff_getElem.1 hx
  have:=pa h hi
  simpa[hi] using this
 have hsum:=List.length_eq_countP_add_countP (fun o:Int=>decide (o<(m:Int))) (l:=p)
 have e1:p.countP (fun o:Int=> !decide (o<(m:Int)))=p.countP (fun a=>decide ¬decide (a<(m:Int))=true):=by
  congr 1;funext o;cases decide (o<(m:Int))<;>rfl
 have l1:p.countP (fun o:Int=>decide (o<(m:Int)))≤m:=by
  rw[List.countP_eq_length_filter]
  refine pigeon m 0 _ (hn.filter _) (fun x hx=>?_)
  have:=List.mem_filter.1 hx
  have h1:=hr x this.1
  have h2:=of_decide_eq_true this.2
  omega
 have l2:p.countP (fun o:Int=> !decide (o<(m:Int)))≤p.length - m:=by
  rw[List.countP_eq_length_filter]
  refine pigeon (p.length - m) m _ (hn.filter _) (fun x hx=>?_)
  have:=List.mem_filter.1 hx
  have h1:=hr x this.1
  have h2:¬x<(m:Int):=by simpa using this.2
  omega
 rw[←e1] at hsum
 omega
theorem yK {p:List Int} {m i:Nat} (hi:i<p.length):lL p m (i+1)=if p.getD i 0<(m:Int) then lL p m i else lL p m i+1:=by
 unfold lL
 rw[List.take_succ_eq_append_getElem hi,List.countP_append]
 have e:p.getD i 0=p[i]:=by simp[hi]
 rw[e]
 by_cases h:p[i]<(m:Int)
 · rw[if_pos h];simp[h]
 · rw[if_neg h];simp[h]
theorem sX {p:List Int} {pl:List Nat} {i:Nat} (hi:i<p.length):(ni p pl).getD i 0=if p.getD i 0<(pl.length:Int) then((pl.getD (p.getD i 0).toNat 0:Nat):Int) else -1:=by
 unfold ni
 simp[hi]
theorem jS (p:List Int) (pl:List Nat):(ni p pl).length=p.length:=by simp[ni]
theorem beqR (r:ai):(r==r)=true:=by
 show(r.In==r.In&&(r.Malformed==r.Malformed&&(r.Replays==r.Replays&&(r.Noise==r.Noise&&(r.Out==r.Out&&true)))))=true
 simp
theorem oW {o:aG} (hw:dt o.State.Window):cY o o=some true:=by
 unfold cY
 rw[ym hw]
 simp only[beq_self_eq_true,cond_true,ae,beqR,Bool.and_self]
theorem yL {c:am} {t:List Int} (h:(gW c t).2=0):0≤IntKind.wrap .i64 (c.Left - 1)∧IntKind.wrap .i64 (c.Left - 1)≤7:=by
 unfold gW mm at h
 cases hc:(((decide ((dp c t).1<0))||(decide ((dp c t).1>16)))||(decide (IntKind.wrap .i64 (c.Left - 1)<0)))||(decide (IntKind.wrap .i64 (c.Left - 1)>7)) with
 |true=>rw[hc,cond_true] at h;cases h
 |false=>
  simp only[Bool.or_eq_false_iff,decide_eq_false_iff_not] at hc
  omega
theorem AA {c:am} {b:aE} {w:aa} {p:List Int} (hinv:InvH b.Header) (hlen:b.Cells.length≤256) (hl:0≤IntKind.wrap .i64 (c.Left - 1)∧IntKind.wrap .i64 (c.Left - 1)≤7)
  (hp:p.length≤256) (hf:mn p=true):vK (memS c b (bd c w b) p)=0:=by
 have hh:xf (memS c b (bd c w b) p)=false:=by
  unfold xf memS
  simp only[jS,jY,bne_self_eq_false,Bool.or_eq_false_iff,decide_eq_false_iff_not]
  have h1:=hinv.2.1
  have h2:=hinv.2.2
  refine⟨⟨⟨⟨⟨⟨⟨⟨⟨?_,?_⟩,?_⟩,trivial⟩,?_⟩,?_⟩,?_⟩,?_⟩,?_⟩,?_⟩<;>omega
 have ha:dq (okF (memS c b (bd c w b) p)) (memS c b (bd c w b) p).From.length 0=true:=by
  rw[dO]
  intro k _ hk
  have hfr:(memS c b (bd c w b) p).From=ni p (bd c w b):=rfl
  have hct:(memS c b (bd c w b) p).Count=(b.Cells.length:Int):=rfl
  rw[hfr,jS] at hk
  have hk:k<p.length:=by omega
  unfold okF
  rw[hfr,hct,sX hk]
  by_cases hc:p.getD k 0<((bd c w b).length:Int)
  · rw[if_pos hc]
    obtain⟨f1,f2⟩:=pa hf hk
    have hpl:(p.getD k 0).toNat<(bd c w b).length:=by omega
    obtain⟨g1,g2⟩:=nY hpl
    have hne:((ni p (bd c w b)).take k).elem (((bd c w b).getD (p.getD k 0).toNat 0:Nat):Int)=false:=by
     rw[List.elem_eq_mem,decide_eq_false_iff_not]
     intro hm
     obtain⟨i,hi,he⟩:=List.mem_take_iff_getElem.1 hm
     rw[jS] at hi
     have hi2:i<p.length:=by omega
     have he2:(ni p (bd c w b)).getD i 0=(((bd c w b).getD (p.getD k 0).toNat 0:Nat):Int):=by
       rw[←he];simp[List.getD,jS,hi2]
     rw[sX hi2] at he2
     by_cases hci:p.getD i 0<((bd c w b).length:Int)
     · rw[if_pos hci] at he2
       obtain⟨e1,e2⟩:=pa hf hi2
       have hnd:=ta (cU c b) w b.Cells.length
       have hpli:(p.getD i 0).toNat<(bd c w b).length:=by omega
       have hx:(bd c w b).getD (p.getD i 0).toNat 0=(bd c w b).getD (p.getD k 0).toNat 0:=by omega
       have hij:=xk hnd hpli hpl 0 hx
       have hpp:p.getD i 0=p.getD k 0:=by omega
       have:=xk (sW hf) hi2 hk 0 hpp
       omega
     · rw[if_neg hci] at he2;omega
    have d1:decide ((0:Int)≤(((bd c w b).getD (p.getD k 0).toNat 0:Nat):Int))=true:=decide_eq_true (by omega)
    have d2:decide ((((bd c w b).getD (p.getD k 0).toNat 0:Nat):Int)<(b.Cells.length:Int))=true:=decide_eq_true (by omega)
    rw[hne,d1,d2];simp
  · rw[if_neg hc];rfl
 unfold vK
 rw[hh,ha];rfl
theorem rm:df ⟨⟨0,0,0⟩,0,[],[]⟩ ⟨⟨0,0,0⟩,0,[],[]⟩=some true:=by
 unfold df
 rw [Loop.run_done (s := (0 : Int)) (r := (.inl () : Unit ⊕ Bool)) rfl, Loop.run_done (s := (0 : Int)) (r := (.inl () : Unit ⊕ Bool)) rfl]
 rfl
theorem AB {cells:List (List Int)} {pl:List Nat} {k:Nat} (hk:k<cells.length) (hm:k∈pl):(eR cells pl).getD k []=(cells.getD k []).take 16:=by
 have hl:k<(eR cells pl).length:=by rw[jY];exact hk
 simp only[List.getD,List.getElem?_eq_getElem hl,Option.getD_some]
 simp only[eR,List.getElem_map,List.getElem_range]
 rw[if_pos hm];rfl
theorem xl (aw:dF=some true) {j:cd} (hw:dt j.S.Window) (hs:gInt .i64 j.C.Span) (hr:j.Raw.length≤2^21) (hrb:aS j.Raw) (ht:j.Tape.length≤2^21) (htb:aS j.Tape):cF j=some true:=by
 unfold cF
 rw[aw]
 simp only[ae,Bool.not_true,cond_false]
 obtain⟨o,m,ho,hf,hcase⟩:=vL (c:=j.C) hw hs hr hrb ht htb
 rw[hf,ho]
 simp only[ae]
 rcases hcase with⟨bad,rfl⟩|⟨ok,hm⟩
 · have hg:dt o.State.Window:=by rw[bad.st];exact hw
   rw[oW hg]
   simp only[ae,Bool.not_true,cond_false]
   rw[zw bad.err,cond_true,rm]
   rfl
 · obtain⟨b,a,acc,rep,cells,w2,hrd,hinv,hlen,h320,hleft,hnext,hck,h5,hsift,hcov,hsh,htags,hacc,hadd,hpk,heq⟩:=ok
   have hgE:gInt .i64 b.Header.Epoch:=by
     show -9223372036854775808≤b.Header.Epoch∧b.Header.Epoch≤9223372036854775807
     have:=hinv.2.2;omega
   obtain⟨hg2,hv2,hright,hc1⟩:=yn hw hck hgE h5 htags hadd
   obtain⟨p1,p2,p3,p4⟩:=Bn hpk
   obtain⟨v1,v2,v3,v4,v5,v6,v7,v8⟩:=ng hcov
   obtain⟨s1,s2,s3,s4⟩:=nj hsh
   obtain⟨hk,hpl⟩:=uM hsift
   have hnl:=yL v3
   have herr:o.Err=0:=by rw[heq]
   have hno:o.Report.Noise=(dp j.C j.Tape).1:=by rw[heq]
   have hst:o.State.Window=w2:=by rw[heq]
   have hg:dt o.State.Window:=by rw[hst];exact hg2
   have hkl:=s9 (key:=j.C.Master) (e:=b.Header.Epoch) (by simpa using hk)
   have hpe:∀i (hi:i<b.Cells.length),dL (keyS j.C.Master b.Header.Epoch).1 j.C.Left (b.Cells.getD i [])=some (cU j.C b i):=fun i hi=>by
     have e:b.Cells.getD i []=b.Cells[i]:=by simp[hi]
     unfold cU
     rw[e,od (by omega) ((h320 _ (List.getElem_mem hi)).2)]
   have hmm:=hm b a hrd
   have hrg:=fun i (hi:i<(bd j.C (da j.S.Window b.Header.Epoch j.C.Span).1 b).length)=>nY hi
   have hplen:(bd j.C (da j.S.Window b.Header.Epoch j.C.Span).1 b).length=acc.length:=by rw[hpl,List.length_map]
   have hcl:(cells.length:Int)=((bd j.C (da j.S.Window b.Header.Epoch j.C.Span).1 b).length:Int)+o.Report.Noise:=by
     rw[hplen,hno,v4,List.length_append,List.length_map];omega
   rw[←hcl] at hmm
   have hol:=oa (n:=(cells.length:Int)) (c:=j.C.Chunks) htb
   have hchk:=AA (c:=j.C) (w:=(da j.S.Window b.Header.Epoch j.C.Span).1) hinv hlen hnl hol s3
   rw[←hmm] at hchk
   rw[oW hg]
   simp only[ae,Bool.not_true,cond_false]
   rw[herr,hrd,p1,tf p2 p3 p4]
   simp only[ae,bne_self_eq_false,cond_false]
   rw[qo]
   simp only[ae]
   rw[hk,yr,hchk]
   simp only[ae,bne_self_eq_false,Bool.or_self,cond_false,Bool.false_or]
   have hH:(m.Header != (⟨b.Header.Round,b.Header.Epoch,IntKind.wrap .i64 (j.C.Left - 1)⟩:ab))=false:=by
     rw[hmm]
     show(!((⟨b.Header.Round,b.Header.Epoch,IntKind.wrap .i64 (j.C.Left - 1)⟩:ab)==⟨b.Header.Round,b.Header.Epoch,IntKind.wrap .i64 (j.C.Left - 1)⟩))=false
     rw[beqH];rfl
   have hC:m.Count=(b.Cells.length:Int):=by rw[hmm];rfl
   rw[hH,hC,s4]
   have hF:m.From=ni (cW j.Tape (cells.length:Int) j.C.Chunks).1 (bd j.C (da j.S.Window b.Header.Epoch j.C.Span).1 b):=by rw[hmm];rfl
   have hN:m.Nonces=eR b.Cells (bd j.C (da j.S.Window b.Header.Epoch j.C.Span).1 b):=by rw[hmm];rfl
   have hpk2:(pc (cW j.Tape (cells.length:Int) j.C.Chunks).1 cells).length=(cW j.Tape (cells.length:Int) j.C.Chunks).1.length:=by simp[pc]
   rw[hF,hN,jS,hpk2]
   simp only[bne_self_eq_false,Bool.or_self,cond_false]
   clear hmm hchk hF hN hm
   generalize bd j.C (da j.S.Window b.Header.Epoch j.C.Span).1 b=pl at*
   have hpick:∀i,i<(cW j.Tape (cells.length:Int) j.C.Chunks).1.length→(pc (cW j.Tape (cells.length:Int) j.C.Chunks).1 cells).getD i []=cells.getD ((cW j.Tape (cells.length:Int) j.C.Chunks).1.getD i 0).toNat []:=fun i hi=>by
     unfold pc
     simp only[List.getD,List.getElem?_map,List.getElem?_range hi,Option.map_some,Option.getD_some]
   generalize (cW j.Tape (cells.length:Int) j.C.Chunks).1=p at*
   have hre:∀i,lL p pl.length i≤256:=fun i=>by
     have h1:lL p pl.length i≤(p.take i).length:=List.countP_le_length
     rw[List.length_take] at h1;omega
   have hfin:(lL p pl.length p.length:Int)=o.Report.Noise:=by
     rw[Az s3 (by omega)];omega
   rw [aV (s0 := ((0 : Int), (0 : Int))) (r := (.inl (lL p pl.length p.length : Int) : Int ⊕ Bool)) (fun i => ((lL p pl.length i : Int), (i : Int))) 0 p.length (Nat.zero_le _) ?_ ?_ ?_]
   · simp only[ae,hfin,beq_self_eq_true]
   · intro i _ hi
     have h1:decide ((i:Int)<(p.length:Int))=true:=decide_eq_true (by omega)
     simp only[h1,cond_true]
     rw[aK (i:=i) rfl (by rw[jS];omega),sX hi,yK hi]
     simp only[ae]
     obtain⟨f1,f2⟩:=pa s3 hi
     have hri:=hre i
     have hpi:=hpick i hi
     by_cases hc:p.getD i 0<(pl.length:Int)
     · rw[if_pos hc,if_pos hc]
       generalize p.getD i 0=z at*
       obtain⟨k,rfl⟩:∃k:Nat,z=k:=⟨z.toNat,by omega⟩
       rw[Int.toNat_natCast] at*
       have hkp:k<pl.length:=by omega
       obtain⟨g1,g2⟩:=hrg k hkp
       have hmemk:pl.getD k 0∈pl:=by simp only[List.getD,List.getElem?_eq_getElem hkp,Option.getD_some];exact List.getElem_mem hkp
       have hcell:cells.getD k []=(cU j.C b (pl.getD k 0)).1.Cell:=by
        rw[v4,hpl]
        have e1:k<(List.map (fun x=>x.Cell) (pl.map fun k=>(cU j.C b k).1)).length:=by simpa using hkp
        simp only[List.getD,List.getElem?_append_left e1,List.getElem?_map,List.getElem?_eq_getElem hkp,Option.map_some,Option.getD_some]
       rw[decide_eq_false (show¬((pl.getD k 0:Nat):Int)<0 by omega)]
       simp only[cond_false]
       generalize pl.getD k 0=x at*
       rw[cS [] (i:=x) rfl g1]
       simp only[ae]
       rw[hpe x g1]
       simp only[ae]
       have ho:((cU j.C b x).2 != 0)= !okS (cU j.C b) x:=rfl
       rw[ho,g2]
       simp only[Bool.not_true,cond_false]
       rw[cS [] (i:=i) rfl (by rw[hpk2];omega),hpi,hcell]
       simp only[ae,bne_self_eq_false,cond_false]
       have hxl:(b.Cells.getD x []).length=320:=by
        simp only[List.getD,List.getElem?_eq_getElem g1,Option.getD_some];exact(h320 _ (List.getElem_mem g1)).1
       rw[cS [] (i:=x) rfl (by rw[jY];exact g1),AB g1 hmemk]
       simp only[ae]
       rw[lj (h:=16) (j:=16) rfl (by omega)]
       simp only[ae,bne_self_eq_false,cond_false]
       rw[wrap64 (by omega)];rfl
     · rw[if_neg hc,if_neg hc]
       have:decide ((-1:Int)<0)=true:=rfl
       rw[this,cond_true]
       simp only[ae]
       rw[wrap64 (by omega),wrap64 (by omega)];rfl
   · have h1:decide ((p.length:Int)<(p.length:Int))=false:=decide_eq_false (by omega)
     simp only[h1,cond_false]
   · simp[lL]
theorem yM (aw:dF=some true) (j:cd) (hg:jl j) (hb:fu j≤1048576):cF j=some true:=by
 obtain⟨gC,gS,gR,gT,_⟩:=hg
 unfold fu at hb
 have hbs:gF j.S.Window≤1048576:=by unfold kM at hb;omega
 have hR:j.Raw.length≤bSl bOne j.Raw:=by unfold bSl;rw[wi];omega
 have hT:j.Tape.length≤bSl bOne j.Tape:=by unfold bSl;rw[wi];omega
 exact xl aw (B7 gS.2.1 hbs) gC.2.2.1 (by omega) (fun x hx=>gR.1 x hx) (by omega) (fun x hx=>gT.1 x hx)
end Go.Proofs.YtobbmodjdkcdcaaGreatDoor
