/-
  Operations, further: fields, indexes, lengths, append, maps, functions.
-/
import Derived.Test.YtgfgckimecpmlaaGreatDoorFa
import Derived.Laws.StructEq
set_option linter.unusedSimpArgs false
set_option linter.unusedVariables false
namespace Fw
open Go
section
variable {P:Program}{a:Act}{o:Oper}{g:G}{w:World}{ρ:a_->V}{H:ao}{ns:Nat}
variable {t el:TypeId}{v:V}{x' i':a_}{i:Operand}{sz n:Nat}
theorem G2{b:Bool}{cs:Array Value}{us:List V}{off:Nat}(hn:gB P t=some n)(hb:qn P t=some b)(hl:off+n<=us.length)(hv:aT g w us cs.toList)(hm:B_ b ((us.drop off).take n)=some v)(h1:b=true\/n=1):∃x,(part t cs off).run P w=.ok x w/\RV g w v x:=by
 have dU:=(hv.drop off).take n;obtain⟨k1,k2⟩:=Cm hm dU;have hlen:=hv.length;simp at hlen;cases b with
  |true=>refine⟨_,?_,k1⟩;simp only[part,Sem.run_bind,ud hb,Result.andThen_ok,abL,cC hn,Sem.run_pure];congr 2;grind
  |false=>
   have Pr:n=1:=by grind
   subst Pr;have:off<cs.size:=by omega
   refine⟨cs[off],?_,?_⟩
   ·simp[part,ud hb,Array.getElem?_eq_getElem this]
   ·have e:(cs.toList.drop off).take 1=[cs[off]]:=by rw[ab8 (by grind)];simp
    grind
theorem J5{x:Operand}{f off:Nat}{fs:Array Field}(ho:o.op=.fieldAddr t x f)(ht:P.underlying t=some (.struct fs))(hf:lD P fs f=some (off,n))(h0:0<n)(hx:ar x=some x')(h:bE ρ H ns (.dI off n x')=some (v,none))(ev:Ev ρ a g w)(hh:az g w H):Good P a o g w ns v H:=by
 have hv:=ev _ _ hx;simp only[lD,abv,aaG,aaE]at hf;obtain⟨fd,hfd,s,hs,rfl,rfl⟩:=hf;have cK:=cC (P:=P) hs w;have fq:s≠0:=by omega
 have fA:∀aU off,a.eval x=.pointer (some ⟨aU,off,none⟩)->(execOp a.eval o).run P w=.ok (.value (.pointer (some ⟨aU,off+fd.offset,none⟩))) w:=by intro aU off he;simp[execOp,ho,he,Instr.fieldAt,run_underlying ht,hfd,Instr.sureAddr,fieldPlace,cK,fq,Addr.gD]
 simp only[bE]at h;split at h<;>simp only[aaC,aaE,reduceCtorEq]at h
 ·rename_i b hb q e;obtain⟨rfl,_⟩:=h;rw[e]at hv;simp only[RV]at hv;obtain⟨⟨⟨aU,off,h1⟩,hd⟩,h2⟩:=hv;refine Good.val hh (fA _ _ h1) ?_;simp_all[RV,Value.pointer.injEq,aaC,Addr.mk.injEq,acm]
 ·rename_i cs e;obtain⟨rfl,_⟩:=h;rw[e]at hv;simp only[RV]at hv;obtain⟨aU,off,h1,h2,h3⟩:=hv;refine Good.val hh (fA _ _ h1) ?_;simp only[RV];refine⟨_,_,rfl,fun hn=>h2 (by grind),?_ ⟩;clear h1 fA h2 e;suffices h:∀(k:Nat)(ds:List D)(q:Nat),dC w (cZ g w) aU q ds->dC w (cZ g w) aU (q+k) (ds.drop k)/\dC w (cZ g w) aU q (ds.take k)from(h s _ _ (h fd.offset _ _ h3).1).2;intro k ds;induction ds generalizing k with
   |nil=>grind[dC]
   |cons d ds ih=>
    intro q hq;cases k with
     |zero=>simp_all[abA,acs,dC,acm,acj]
     |succ k=>grind[dC]
theorem dC.drop{im:Nat->Prop}{aU:Nat}:∀{ds:List D}{q:Nat}(k:Nat),dC w im aU q ds->dC w im aU (q+k) (ds.drop k)
 |[],_,k,_=>by simp[dC]
 |d::ds,q,0,h=>by grind
 |d::ds,q,k+1,h=>by simp only[dC]at h;simp only[ac9];rw[show q+(k+1)=q+1+k by omega];exact dC.drop k h.2
theorem J6{x:Operand}(ho:o.op=.indexAddr t x i)(ht:P.underlying t=some (.slice el))(hs:gB P el=some sz)(hx:ar x=some x')(hi:ar i=some i')(h:bE ρ H ns (.cF sz x' i')=some (v,none))(ev:Ev ρ a g w)(hh:az g w H):Good P a o g w ns v H:=by
 have hv:=ev _ _ hx;simp only[bE]at h;split at h
 ·cases h
 ·rename_i j ej;obtain⟨k,hk⟩:=ew ej (ev _ _ hi);have fA:∀aU off len cap,a.eval x=.slice (some ⟨aU,off,none⟩) len cap->j<len->(execOp a.eval o).run P w=.ok (.value (.pointer (some ⟨aU,off+j*sz,none⟩))) w:=by
   intro aU off len cap he hj;have:((j:Int)<(len:Int)):=by omega
   simp[execOp,ho,he,Instr.indexAt,hk,asIntOf,run_underlying ht,hj,cC hs,Addr.gD]
  split at h
  ·rename_i es e;split at h
   ·rename_i d hd;cases hb:Nat.beq d.length sz with
     |false=>grind
     |true=>
      rw[hb]at h;simp only[aaJ,aaC,aaE]at h;obtain⟨rfl,_⟩:=h;rw[e]at hv;simp only[RV,Rd]at hv;have hj:j<es.length:=(aaO.1 hd).1;rcases hv with⟨rfl,_⟩|⟨aU,off,cap,w_,h1,h2,h3,h4⟩
      ·simp at hj
      ·obtain⟨h5,h6⟩:=iu.get j h4 hd;have:w_=sz:=by simp_all
       subst this;refine Good.val hh (fA _ _ _ _ h1 hj) ?_;grind[RV]
   ·cases h
  ·rename_i b hb off len w_ e;cases hc:(Nat.beq sz w_&&Nat.blt j len&&ff H b hb)with
    |false=>grind
    |true=>
     rw[hc]at h;simp only[aaJ,aaC,aaE]at h;obtain⟨rfl,_⟩:=h;simp only[aaD]at hc;have e1:=aaM hc.1.1;subst e1;have hj:j<len:=by simp_all
     rw[e]at hv;rcases nb hc.2 hh with⟨aU,cp,hg⟩|⟨rfl,hg⟩
     ·obtain⟨cap,h1,h2,h3⟩:=RV.rP hv hg;refine Good.val hh (fA _ _ _ _ h1 hj) ?_;grind[RV,Option.some.injEq]
     ·obtain⟨_,rfl,_⟩:=RV.xe hv hg;omega
  ·cases h
theorem G3{x:Operand}{len:Nat}(ho:o.op=.indexAddr t x i)(ht:P.underlying t=some (.array len el))(hs:gB P el=some sz)(hx:ar x=some x')(hi:ar i=some i')(h:bE ρ H ns (.pB len sz x' i')=some (v,none))(ev:Ev ρ a g w)(hh:az g w H):Good P a o g w ns v H:=by
 have hv:=ev _ _ hx;simp only[bE]at h;split at h
 ·cases h
 ·rename_i j ej;obtain⟨k,hk⟩:=ew ej (ev _ _ hi);cases hc:Nat.blt j len with
   |false=>grind
   |true=>
    rw[hc]at h;simp only[aaJ]at h;have hj:j<len:=by simp_all
    have fA:∀aU off,a.eval x=.pointer (some ⟨aU,off,none⟩)->(execOp a.eval o).run P w=.ok (.value (.pointer (some ⟨aU,off+j*sz,none⟩))) w:=by intro aU off he;simp[execOp,ho,he,Instr.indexAt,hk,asIntOf,run_underlying ht,hj,cC hs,Addr.gD,Instr.sureAddr]
    split at h<;>simp only[aaC,aaE,reduceCtorEq]at h
    ·rename_i b hb q e;obtain⟨rfl,_⟩:=h;rw[e]at hv;simp only[RV]at hv;obtain⟨⟨⟨aU,off,h1⟩,hd⟩,h2⟩:=hv;refine Good.val hh (fA _ _ h1) ?_;simp_all[RV,Value.pointer.injEq,aaC,Addr.mk.injEq,acm]
    ·rename_i cs e;obtain⟨rfl,_⟩:=h;rw[e]at hv;simp only[RV]at hv;obtain⟨aU,off,h1,h2,h3⟩:=hv;refine Good.val hh (fA _ _ h1) ?_;simp only[RV];exact⟨_,_,rfl,fun hn=>h2 (by grind),dC.drop _ h3⟩
theorem M'{x:Operand}(ho:o.op=.index t x i)(ht:P.underlying t=some .string)(hx:ar x=some x')(hi:ar i=some i')(h:bE ρ H ns (.gz x' i')=some (v,none))(ev:Ev ρ a g w)(hh:az g w H):Good P a o g w ns v H:=by
 have hv:=ev _ _ hx;simp only[bE]at h;split at h
 ·cases h
 ·rename_i j ej;obtain⟨k,hk⟩:=ew ej (ev _ _ hi);split at h
  ·rename_i s e;split at h
   ·rename_i b hb;simp only[aaC,aaE]at h;obtain⟨rfl,_⟩:=h;rw[e]at hv;obtain⟨bs,h1,rfl⟩:=RV.str hv;refine Good.val (x:=.int .u8 b.toNat) hh ?_ (RV.Cl _ _);have J7:bs[j]? =some b:=by
     have b8:=(aaO.1 hb).1;have V_:j<bs.size:=by simp_all
     rw[getElem?_pos bs j V_];have:=(aaO.1 hb).2;rw[←this];rfl
    simp[execOp,ho,h1,Instr.index,hk,asIntOf,run_underlying ht,J7]
   ·cases h
  ·cases h
theorem M_{x:Operand}{len j:Nat}{b:Bool}{cs:List V}(ho:o.op=.index t x i)(ht:P.underlying t=some (.array len el))(hs:gB P el=some sz)(hb:qn P el=some b)(h1:b=true\/sz=1)(hx:ar x=some x')(hi:ar i=some i')(ej:ct (ρ i')=some j)(e:ρ x'=.agg cs)(hj:j<len)(hl:len*sz<=cs.length)(hm:B_ b ((cs.drop (j*sz)).take sz)=some v)(ev:Ev ρ a g w)(hh:az g w H):Good P a o g w ns v H:=by
 have hv:=ev _ _ hx;rw[e]at hv;simp only[RV]at hv;obtain⟨z,h2,h3⟩:=hv;obtain⟨k,hk⟩:=ew ej (ev _ _ hi);have hle:j*sz+sz<=cs.length:=by have:(j+1)*sz<=len*sz:=abc _ hj;grind
 obtain⟨y,h4,h5⟩:=G2 (P:=P) hs hb hle h3 hm h1;exact Good.val hh (by simp[execOp,ho,h2,Instr.index,hk,asIntOf,run_underlying ht,hj,cC hs,h4]) h5
theorem P_{x:Operand}{i:Nat}{vs:List V}(ho:o.op=.extract x i)(hx:ar x=some x')(e:ρ x'=.tuple vs)(hi:vs[i]? =some v)(ev:Ev ρ a g w)(hh:az g w H):Good P a o g w ns v H:=by
 have hv:=ev _ _ hx;rw[e]at hv;simp only[RV]at hv;obtain⟨z,h2,h3⟩:=hv;obtain⟨y,h4,h5⟩:=h3.get i hi;have Wa:z[i]? =some y:=by grind
 exact Good.val hh (by simp_all[execOp,Instr.extract]) h5
theorem jX(ev:Ev ρ a g w):∀{l:List Operand}{l':List a_},bW ar l=some l'->aT g w (bu ρ l') (l.map a.eval)
 |[],l',h=>by grind[bW,bu,aT]
 |x::xs,l',h=>by
  simp only[bW]at h;split at h
  ·cases h
  ·rename_i y hy;split at h
   ·cases h
   ·rename_i ys GF;simp only[aaC]at h;subst h;simp only[bu,aaV,aT];exact⟨ev _ _ hy,jX ev GF⟩
theorem G4{f:FuncId}{p q:Array Operand}{p' q':List a_}(ho:o.op=.makeFunc (.func f) p q)(hp:bW ar p.toList=some p')(hq:bW ar q.toList=some q')(ev:Ev ρ a g w)(hh:az g w H):Good P a o g w ns (.func f (bu ρ p') (bu ρ q')) H:=by refine Good.val (x:=.func (.func f) (p.map a.eval) (q.map a.eval)) hh (by simp[execOp,ho,Instr.makeFunc]) ?_;simp only[RV];exact⟨_,_,rfl,by simpa using jX ev hp,by simpa using jX ev hq⟩
theorem J8(ho:o.op=.makeMap t none)(hh:az g w H)(jT:jl g ns):Good P a o g w ns (.map ns) (bJ H ns (.map [])):=by
 have he:=cg.new hh jT (.map #[] 0) (.obj w.heap.size) rfl;have h2:az (g.add ns (.obj w.heap.size)) (w.alloc (.map #[] 0)) (bJ H ns (.map [])):=by refine az.new hh jT _ _ _ rfl ?_;simp only[RB];exact⟨#[],0,bA _ _,rfl,by simp,by simp,rfl⟩
 refine⟨_,_,.value (.map (some w.heap.size)),?_,.inl ⟨_,rfl,?_⟩,h2,he,fun _ h=>h⟩
 ·simp[execOp,ho,Instr.makeMap]
 ·simp only[RV];refine⟨⟨rfl,.inr rfl⟩,fun x hx=>?_ ⟩;grind[G.add]
theorem J9{kt:TypeId}{x:Operand}{wr:Wr}(ho:o.op=.range t x)(ht:P.underlying t=some (.map kt el))(hx:ar x=some x')(h:bE ρ H ns (.range true x')=some (v,wr))(ev:Ev ρ a g w)(hh:az g w H)(jT:jl g ns):Good P a o g w ns v (br H wr):=by
 have hv:=ev _ _ hx;simp only[bE,aaJ]at h;split at h
 ·rename_i b eb;rw[eb]at hv;simp only[RV]at hv;split at h
  ·rename_i es hg;simp only[aaC,aaE]at h;obtain⟨rfl,rfl⟩:=h;obtain⟨xb,qq⟩:=hh.back b _ hg;obtain⟨hd,y,hy,hr⟩:=hh.live b xb qq;rw[hg]at hy;simp only[aaC]at hy;subst hy;obtain⟨aU,rfl,L9⟩:=hv.2 xb qq;simp only[RB]at hr;obtain⟨bO,clock,h1,h2,h3,h4,h5⟩:=hr;have he:=cg.new hh jT (.mapIter (some aU) clock #[] clock) (.obj w.heap.size) rfl;have hbn:b≠ns:=by rintro rfl;exact jT hd
   have h2':az (g.add ns (.obj w.heap.size)) (w.alloc (.mapIter (some aU) clock #[] clock)) (bJ H ns (.iH b es.length [])):=by refine az.new hh jT _ _ _ rfl ?_;simp only[RB];refine⟨aU,#[],by rw[←h2,←h5];exact bA _ _,rfl,.inl hd,fun x hx=>?_ ⟩;simp_all[G.add,abM,aaC]
   refine⟨_,_,.value (.pointer (some ⟨w.heap.size,0,none⟩)),?_,.inl ⟨_,rfl,?_⟩,h2',he,fun _ h=>h⟩
   ·simp[execOp,ho,Instr.range,run_underlying ht,L9,getObj,Sem.run,h1]
   ·simp only[RV];refine⟨⟨rfl,.inr rfl⟩,fun x hx=>?_ ⟩;grind[G.add]
  ·cases h
 ·cases h
theorem J'{x:Operand}{wr:Wr}(ho:o.op=.entry x)(hx:ar x=some x')(h:bE ρ H ns (.entry x')=some (v,wr))(ev:Ev ρ a g w)(hh:az g w H):Good P a o g w ns v (br H wr):=by
 have hv:=ev _ _ hx;simp only[bE]at h;split at h
 ·rename_i b m eb;rw[eb]at hv;simp only[RV]at hv;split at h
  ·rename_i m' n seen Nb;split at h
   ·rename_i es Z4;cases hc:(Nat.beq m' m&&Nat.beq es.length n)with
     |false=>grind
     |true=>
      rw[hc]at h;simp only[aaJ]at h;simp only[aaD]at hc;obtain rfl:=aaM hc.1;have hn:=aaM hc.2;split at h
      ·rename_i i hi;split at h
       ·rename_i k u hk;simp only[aaC,aaE]at h;obtain⟨rfl,rfl⟩:=h;obtain⟨xb,qq⟩:=hh.back b _ Nb;obtain⟨_,y,hy,hr⟩:=hh.live b xb qq;rw[Nb]at hy;simp only[aaC]at hy;subst hy;obtain⟨aU,rfl,L9⟩:=hv.2 xb qq;simp only[RB]at hr;obtain⟨mb,sa,k1,k2,k3,k4⟩:=hr;obtain⟨xm,J_⟩:=hh.back m' _ Z4;obtain⟨_,y,hy,Cn⟩:=hh.live m' xm J_;rw[Z4]at hy;simp only[aaC]at hy;subst hy;obtain rfl:=k4 xm J_;simp only[RB]at Cn;obtain⟨bO,clock,m1,m2,m3,m4,m5⟩:=Cn;obtain⟨z,z1,z2,z3,z4⟩:=m3 i k u hk;have Z5:sa.back?=some i:=by grind
        have Z6:bO.find? (fun e=>e.born==i)=some z:=by have hb:=m4 i z z1;rw[Array.find?_eq_some_iff_getElem];obtain⟨b8,hz⟩:=abP.1 z1;refine⟨by simp[hb],i,b8,hz,fun j hj=>?_ ⟩;have:=m4 j _ (Array.getElem?_eq_getElem (by omega));grind
        have Nc:(clock !=n)=false:=by simp;omega
        refine Good.val (x:=.tuple #[z.key,z.val]) hh ?_ ?_;all_goals simp_all[execOp,Instr.entry,getObj,Sem.run,RV,aT]
       ·cases h
      ·cases h
   ·cases h
  ·cases h
 ·cases h
theorem Fa{d:TypeDesc}{x:Operand}(ho:o.op=.makeInterface t x)(ht:P.underlying t=some d)(hd:∀m,d≠ .interface m)(hx:ar x=some x')(ev:Ev ρ a g w)(hh:az g w H):Good P a o g w ns (.iface t (ρ x')) H:=by refine Good.val (x:=.iface t (a.eval x)) hh ?_ (by simp only[RV];exact⟨_,rfl,ev _ _ hx⟩);cases d<;>simp_all[execOp,Instr.makeInterface,run_underlying ht]
def G5(P:Program)(t:TypeId):lu->Prop| .str=>P.underlying t=some .string| .slice=>∃e,P.underlying t=some (.slice e)| .map=>∃k e,P.underlying t=some (.map k e)| .arr _=>False
theorem yh{u:V}{v:Value}{k:lu}{ty:TypeId}(h:iw H k u=some n)(hv:RV g w u v)(hh:az g w H)(hk:G5 P t k):(Builtin.len_ #[t] ty #[v]).run P w=.ok (goInt n) w:=by
 cases k with
  |str=>
   simp only[G5]at hk;cases u with
    |d x=>
     cases x with
      |str s=>simp only[iw,aaC]at h;subst h;obtain⟨b,rfl,rfl⟩:=RV.str hv;simp[Builtin.len_,run_underlying hk]
      |_=>simp[iw]at h
    |_=>simp[iw]at h
  |slice=>
   obtain⟨e,he⟩:=hk;cases u with
    |d x=>
     cases x with
      |list es=>simp only[iw,aaC]at h;subst h;simp only[RV,Rd]at hv;rcases hv with⟨rfl,rfl|⟨_,_,rfl⟩⟩|⟨aU,off,cap,sz,rfl,_⟩<;>simp[Builtin.len_,run_underlying he]
      |_=>simp[iw]at h
    |ad=>simp only[iw,aaC]at h;subst h;simp only[RV]at hv;subst hv;simp[Builtin.len_,run_underlying he]
    |sl b hb off len sz=>
     simp only[iw]at h;cases hl:ff H b hb with
      |false=>grind
      |true=>
       rw[hl]at h;simp only[aaJ,aaC]at h;subst h;rcases nb hl hh with⟨aU,cp,hg⟩|⟨rfl,hg⟩
       ·obtain⟨cap,rfl,_⟩:=RV.rP hv hg;simp[Builtin.len_,run_underlying he]
       ·obtain⟨_,rfl,_,rfl⟩:=RV.xe hv hg;simp[Builtin.len_,run_underlying he]
    |_=>simp[iw]at h
  |map=>
   obtain⟨kt,e,he⟩:=hk;cases u with
    |d x=>cases x<;>simp[iw]at h
    |mX=>simp only[iw,aaC]at h;subst h;simp only[RV]at hv;subst hv;simp[Builtin.len_,run_underlying he]
    |map b=>
     simp only[iw]at h;split at h
     ·rename_i es hg;simp only[aaC]at h;subst h;obtain⟨x,hx⟩:=hh.back b _ hg;obtain⟨_,y,hy,hr⟩:=hh.live b x hx;rw[hg]at hy;simp only[aaC]at hy;subst hy;simp only[RV]at hv;obtain⟨aU,rfl,rfl⟩:=hv.2 x hx;simp only[RB]at hr;obtain⟨bO,clock,h1,h2,_⟩:=hr;simp[Builtin.len_,run_underlying he,getObj,Sem.run,h1,h2]
     ·cases h
    |_=>simp[iw]at h
  |arr=>exact hk.elim
theorem jd{u:V}{v:Value}{xs:List V}(h:bt H sz u=some xs)(hv:RV g w u v)(hh:az g w H)(cK:0<sz):∃n vs,(Builtin.lenOf v).run P w=.ok n w/\(Builtin.firstCells sz n v).run P w=.ok vs.toArray w/\aT g w xs vs/\vs.length=n*sz:=by
 cases u with
  |ad=>simp_all[bt,aaC,RV,Builtin.lenOf,Builtin.firstCells,aT]
  |d x=>
   cases x with
    |list es=>
     simp only[bt]at h;cases hc:es.all (fun e=>Nat.beq e.length sz)with
      |false=>grind
      |true=>
       rw[hc]at h;simp only[aaJ,aaC]at h;subst h;rcases RV.list hv (yg hc)with⟨rfl,rfl|⟨_,_,rfl⟩⟩|⟨aU,off,cap,rfl,_,_,h4⟩
       ·simp_all[Builtin.lenOf,Builtin.firstCells,aT]
       ·simp_all[Builtin.lenOf,Builtin.firstCells,loadCells,loadCellsFrom,aT]
       ·have DD:∀(es:List (List D))(off:Nat),iu w (cZ g w) aU off sz es->dC w (cZ g w) aU off es.flatten:=by
         intro es;induction es with
          |nil=>grind[dC]
          |cons e es ih=>
           intro off h;simp only[iu]at h;obtain⟨q1,q2,q3⟩:=h;have br:∀(ds uK:List D)(q:Nat),dC w (cZ g w) aU q ds->dC w (cZ g w) aU (q+ds.length) uK->dC w (cZ g w) aU q (ds++uK):=by intro ds uK;induction ds<;>grind[dC]
           grind
        obtain⟨vs,k1,k2⟩:=dC.cX (DD es off h4);have hlen:vs.length=es.length*sz:=by
         have:=k1.length;simp only[aaQ]at this;rw[←this];have aaf:∀(es:List (List D)),es.all (fun e=>Nat.beq e.length sz)=true->es.flatten.length=es.length*sz:=by
          clear this k1 k2 vs hv h4 DD hc;intro es hc;induction es with
           |nil=>simp
           |cons e es ih=>simp only[aaX,aaD]at hc;simp only[List.flatten_cons,aaZ,aaR];rw[ih hc.2,aaM hc.1,acE];omega
         grind
        have:=run_loadCells_list (P:=P) w ⟨aU,off,none⟩ vs (fun j x hj=>by grind[Addr.gD]);simp_all[Builtin.lenOf,Builtin.firstCells]
    |str s=>
     simp only[bt]at h;cases hq:Nat.beq sz 1 with
      |false=>grind
      |true=>
       rw[hq]at h;have:=aaM hq;subst this;simp only[aaJ,aaC]at h;subst h;obtain⟨b,rfl,rfl⟩:=RV.str hv;refine⟨b.size,b.data.toList.map (fun x=>.int .u8 x.toNat),by simp[Builtin.lenOf],?_,?_,by simp⟩
       ·have e:b.extract 0 b.size=b:=by simp_all
        simp only[Builtin.firstCells,e,Sem.run_pure];congr 1;grind
       ·generalize b.data.toList=l;induction l with
         |nil=>simp[aT]
         |cons x l ih=>simp only[aaV,aT];exact⟨RV.Cl _ _,ih⟩
    |_=>simp[bt]at h
  |sl b hb off len w_=>
   simp only[bt]at h;cases hq:Nat.beq sz w_ with
    |false=>grind
    |true=>
     have e1:=aaM hq;subst e1;rw[hq]at h;simp only[aaJ]at h;cases hg:aF H b with
      |none=>grind
      |some y=>
       cases y with
        |cells cs=>
         simp only[hg]at h;cases hc:(Nat.beq cs.length hb&&Nat.ble (off+len*sz) hb)with
          |false=>grind
          |true=>
           rw[hc]at h;simp only[aaJ,aaC]at h;subst h;simp only[aaD]at hc;have e2:=aaN hc.2;obtain⟨aU,cp,c,e,h1,h2,h3,h4,h5,h6,h7⟩:=lG hg hc.1 hh;obtain⟨cap,rfl,h8,h9⟩:=RV.rP hv h1;refine⟨len,((c.toList.take hb).drop off).take (len*sz),by simp[Builtin.lenOf],?_,(h7.drop off).take _,by simp;omega⟩;have hlen:(((c.toList.take hb).drop off).take (len*sz)).length=len*sz:=by simp;omega
           have:=run_loadCells_list (P:=P) w ⟨aU,off,none⟩ (((c.toList.take hb).drop off).take (len*sz)) (fun j x hj=>by grind[Addr.gD,World.cell?]);grind[Builtin.firstCells]
        |nil=>
         simp only[hg]at h;cases hc:Nat.beq len 0 with
          |false=>grind
          |true=>
           rw[hc]at h;simp only[aaJ,aaC]at h;subst h;obtain⟨x,hx⟩:=hh.back b _ hg;obtain⟨_,y,hy,hr⟩:=hh.live b x hx;rw[hg]at hy;simp only[aaC]at hy;subst hy;cases x with
            |cells=>grind[RB]
            |obj=>grind[RB]
            |nil=>obtain⟨_,rfl,_,rfl⟩:=RV.xe hv hx;simp_all[Builtin.lenOf,Builtin.firstCells,aT]
        |_=>grind
  |_=>simp[bt]at h
end
end Fw
/-
  Operations, further: append.
-/
namespace Fw
open Go
section
variable {P:Program}{a:Act}{o:Oper}{g:G}{w:World}{ρ:a_->V}{H:ao}{ns:Nat}
variable {t u e ty:TypeId}{i:TypeInfo}
theorem lH{base:Option Addr}{dN kR n:Nat}{v:Value}{news:List Value}{w':World}(ht:P.underlying t=some (.slice e))(hu:(∃e2,P.underlying u=some (.slice e2))\/P.underlying u=some .string)(hi:P.info? e=some i)(hlen:(Builtin.lenOf v).run P w=.ok n w)(yi:(Builtin.firstCells i.size n v).run P w=.ok news.toArray w)(qt:dN+n<=kR)(Ck:∀a,base=some a->(storeCells (a.add (dN*i.size)) news).run P w=.ok () w')(hn:base=none->w'=w):(Builtin.append_ #[t,u] ty #[.slice base dN kR,v]).run P w=.ok (.slice base (dN+n) kR) w':=by
 cases base with
  |none=>have:=hn rfl;subst this;rcases hu with⟨e2,hu⟩|hu<;>simp[Builtin.append_,run_underlying ht,run_underlying hu,Go.sizeOf,typeInfo,hi,hlen,qt,yi]
  |some b=>have:=Ck b rfl;rcases hu with⟨e2,hu⟩|hu<;>simp[Builtin.append_,run_underlying ht,run_underlying hu,Go.sizeOf,typeInfo,hi,hlen,qt,yi,this]
theorem qu{z:Value}{base:Option Addr}{dN kR n:Nat}{v:Value}{ky news:List Value}(ht:P.underlying t=some (.slice e))(hu:(∃e2,P.underlying u=some (.slice e2))\/P.underlying u=some .string)(hi:P.info? e=some i)(hz:i.zero=some z)(hlen:(Builtin.lenOf v).run P w=.ok n w)(yi:(Builtin.firstCells i.size n v).run P w.drew=.ok news.toArray w.drew)(zQ:(Builtin.firstCells i.size dN (.slice base dN kR)).run P w.drew=.ok ky.toArray w.drew)(hg:kR<dN+n)(U4:((dN+n:Nat):Int)<=9223372036854775807)(Nf:Builtin.nextslicecap (dN+n) kR*i.bytes<=281474976710656):(Builtin.append_ #[t,u] ty #[.slice base dN kR,v]).run P w=.ok (.slice (some ⟨w.heap.size,0,none⟩) (dN+n) (grownCap w (dN+n) kR e)) (w.drew.alloc (.cells (ky.toArray++news.toArray++Builtin.zeroCells z.cells (grownCap w (dN+n) kR e - (dN+n))) e)):=by
 have hn:¬(dN+n<=kR):=by omega
 have Wb:¬(9223372036854775807<((dN:Int)+(n:Int))):=by omega
 have Wc:¬(281474976710656<Builtin.nextslicecap (dN+n) kR*i.bytes):=by omega
 rcases hu with⟨e2,hu⟩|hu<;>simp[Builtin.append_,run_underlying ht,run_underlying hu,Go.sizeOf,typeInfo,zeroValue,hi,hz,hlen,hn,Wb,Wc,Question.forced,yi,zQ,newRow,grownCap]<;>(grind)
theorem eO(g:G)(w:World):cg g w g w.drew:=⟨rfl,rfl,rfl,aaP _,fun _ h=>⟨h,rfl⟩,fun _ h=>h,fun _ _=>GB.step.refl _,rfl,fun _ _=>rfl⟩
theorem az.drew(hh:az g w H):az g w.drew H:=hh.ext (eO g w) (fun _ _ _ _ _=>rfl)
theorem G6{zs:List V}{x y:Operand}{x' y':a_}{xs:List V}{v:V}{wr:Wr}(ho:o.op=.call {callee:=.builtin .append,args:= #[x,y],argTypes:= #[t,u]})(U5:o.type=ty)(ht:P.underlying t=some (.slice e))(hu:(∃e2,P.underlying u=some (.slice e2))\/P.underlying u=some .string)(hi:P.info? e=some i)(hz:dj P e=some zs)(h0:0<i.size)(V6:zs.length=i.size)(hx:ar x=some x')(hy:ar y=some y')(hs:bt H i.size (ρ y')=some xs)(ha:dr H ns i.size i.bytes (ρ x') xs=some (v,wr))(ev:Ev ρ a g w)(hh:az g w H)(jT:jl g ns):Good P a o g w ns v (br H wr):=by
 have dy:=ev _ _ hx;have gk:=ev _ _ hy;simp only[dj,abv]at hz;obtain⟨z,⟨i',lE,zL⟩,hm⟩:=hz;rw[hi]at lE;simp only[aaC]at lE;subst lE;have Ng:z.cells.size=i.size:=by have:=cA hm;grind
 obtain⟨n,news,f1,f2,f3,f4⟩:=jd (P:=P) hs gk hh h0;obtain⟨n',eA,f1',Wd,L_,Z7⟩:=jd (P:=P) hs (RV.ext (eO g w) _ _ gk) hh.drew h0;have Ps:n'=n:=by
  have e1:=L_.length;have e2:=f3.length;have:n'*i.size=n*i.size:=by omega
  exact acQ h0 this
 subst Ps;have Pq:xs.length=n'*i.size:=by rw[f3.length,f4]
 have rT:xs.length / i.size=n':=by simp_all
 unfold dr at ha;cases hb0:Nat.beq i.size 0 with
  |true=>grind
  |false=>
   rw[hb0]at ha;simp only[aaT]at ha;cases DC:Nat.beq (xs.length%i.size) 0 with
    |false=>grind
    |true=>
     rw[DC]at ha;simp only[abF,aaT]at ha;cases iL:xs.all eK with
      |false=>grind
      |true=>
       rw[iL]at ha;simp only[abF,aaT]at ha;have Fb:∀(vx:Value)(r:Value)(w':World),a.eval x=vx->(Builtin.append_ #[t,u] ty #[vx,a.eval y]).run P w=.ok r w'->(execOp a.eval o).run P w=.ok (.value r) w':=by simp_all[execOp,resolve,invoke,builtin]
       have DE:∀(Nh:Option Addr)(dN kR:Nat)(ky:List Value)(Ka:List V),a.eval x=.slice Nh dN kR->Ka.length=ky.length->Ka.all eK=true->ky.length=dN*i.size->(Builtin.firstCells i.size dN (.slice Nh dN kR)).run P w.drew=.ok ky.toArray w.drew->kR<dN+n'->((Ka.length+xs.length)*(i.bytes+1)<=bI)->∃w' cap,(execOp a.eval o).run P w=.ok (.value (.slice (some ⟨w.heap.size,0,none⟩) (dN+n') cap)) w'/\w'=w.drew.alloc (.cells (ky.toArray++eA.toArray++Builtin.zeroCells z.cells (cap - (dN+n'))) e)/\dN+n'<=cap/\(ky.toArray++eA.toArray++Builtin.zeroCells z.cells (cap - (dN+n'))).size=cap*i.size:=by
        intro Nh dN kR ky Ka e1 e2 e3 e4 e5 e6 e7;have hol:Ka.length=dN*i.size:=by rw[e2,e4]
        have Qa:(dN+n')*i.size=Ka.length+xs.length:=by grind
        have hle:dN+n'<=Ka.length+xs.length:=by rw[←Qa];exact acd _ h0
        have hb:(dN+n')*i.bytes<=140737488355328:=by
         have e1:(dN+n')*i.bytes<=(Ka.length+xs.length)*(i.bytes+1):=Nat.mul_le_mul hle (by omega);have e2:bI<=140737488355328:=by decide
         omega
        have U4:dN+n'<=140737488355328:=by
         have e1:dN+n'<=(Ka.length+xs.length)*(i.bytes+1):=abl hle (acd _ (by omega));have e2:bI<=140737488355328:=by decide
         omega
        have hr:=qu (ty:=ty) ht hu hi zL f1 Wd e5 e6 (by omega) (growslice_fits e6 hb);refine⟨_,_,Fb _ _ _ e1 hr,rfl,grownCap_ge _ _ _ _,?_⟩;have Qb:=grownCap_ge w (dN+n') kR e;simp only[Array.size_append,List.size_toArray,size_zeroCells,Ng,e4,Z7,←acE];grind
       split at ha
       ·rename_i ex;rw[ex]at dy;simp only[RV]at dy;split at ha
        ·simp only[aaC,aaE]at ha;obtain⟨rfl,rfl⟩:=ha;have JL:n'=0:=by
          have U6:n'*i.size=0:=by grind
          simp_all
         subst JL;have hr:=lH (ty:=ty) (base:=none) (dN:=0) (kR:=0) ht hu hi f1 f2 (aaP _) (fun a h=>by cases h) (fun _=>rfl);exact Good.val (x:=.slice none 0 0) hh (Fb _ _ _ dy hr) (by simp only[RV])
        ·rename_i fq;cases hc:Nat.ble (xs.length*(i.bytes+1)) bI with
          |false=>grind
          |true=>
           rw[hc]at ha;simp only[aaJ,aaC,aaE]at ha;obtain⟨rfl,rfl⟩:=ha;have pD:0<n':=by grind
           obtain⟨w',cap,k1,rfl,k3,k4⟩:=DE none 0 0 [] [] dy rfl rfl (by simp) (by simp[Builtin.firstCells]) (by omega) (by simp_all);have he:=cg.new (w:=w.drew) hh.drew jT (.cells (([]:List Value).toArray++eA.toArray++Builtin.zeroCells z.cells (cap - (0+n'))) e) (.cells w.heap.size (cap*i.size) xs.length) rfl;refine⟨_,_,_,k1,.inl ⟨_,rfl,?_⟩,az.new hh.drew jT _ _ _ rfl ?_,(eO g w).trans he,fun _ h=>h⟩
           ·rw[rT,aaY];refine RV.zO (cp:=cap*i.size) (.inr rfl) (by simp[G.add]) (by omega) (by omega)
           ·simp only[RB];refine⟨trivial,iL,by grind,_,e,bA _ _,by grind,?_ ⟩;have:((([]:List Value).toArray++eA.toArray++Builtin.zeroCells z.cells (cap - (0+n'))).toList).take xs.length=eA:=by grind
            rw[this];exact aT.ext he _ _ L_
       ·rename_i b hb off len w_ ex;cases hq:Nat.beq i.size w_ with
         |false=>grind
         |true=>
          have e1:=aaM hq;rw[hq]at ha;simp only[aaJ]at ha;rw[ex]at dy;rw[←e1]at dy;split at ha
          ·rename_i cs hg;cases hc:(Nat.beq cs.length hb&&Nat.beq off 0&&Nat.beq (len*i.size) hb&&Nat.ble ((hb+xs.length)*(i.bytes+1)) bI)with
            |false=>grind
            |true=>
             rw[hc]at ha;simp only[aaJ,aaC,aaE]at ha;obtain⟨rfl,rfl⟩:=ha;simp only[aaD]at hc;have e2:=aaM hc.1.1.2;subst e2;have e3:=aaM hc.1.2;obtain⟨aU,cp,c,ce,Ni,h2,h3,h4,h5,h6,h7⟩:=lG hg hc.1.1.1 hh;obtain⟨cap,h8,h9,Qc⟩:=RV.rP dy Ni;have lI:=RV.cV dy;by_cases qt:len+n'<=cap
             ·have Nf:hb+xs.length<=cp:=by have:(len+n')*i.size<=cap*i.size:=abc _ qt;grind
              have Ck:=run_storeCells_at P aU (len*i.size) ce news 0 c w h5 (by grind) (aT.one iL f3);simp only[acj]at Ck;rw[←jW _ _ _ (by grind),e3]at Ck;have hr:=lH (ty:=ty) (base:=some ⟨aU,0,none⟩) ht hu hi f1 f2 qt (fun q hq=>by simp only[aaC]at hq;subst hq;rw[Addr.gD,aaY,e3];exact Ck) (fun h=>by cases h);have hw:∀j,j≠aU->(w.setRow aU (putCells c.toList hb news).toArray).heap[j]? =w.heap[j]? :=fun j hj=>setRow_other w aU j _ hj
              have DF:GB.step (some (.cells aU cp hb)) (some (.cells aU cp (hb+xs.length))):=by
               by_cases hz:xs.length=0
               ·left;grind
               ·right;grind
              have Ma:∀j,j<w.heap.size->some j≠some aU->(w.setRow aU (putCells c.toList hb news).toArray).heap[j]? =w.heap[j]? :=fun j _ hj=>hw j (fun e=>hj (by rw[e]))
              have he:cg g w (g.set b (.cells aU cp (hb+xs.length))) (w.setRow aU (putCells c.toList hb news).toArray):=cg.grow (hh.M2 Ni rfl) Ni rfl DF (.inl rfl) rfl rfl rfl (by simp) Ma;refine⟨_,_,_,Fb _ _ _ h8 hr,.inl ⟨_,rfl,?_⟩,az.grow (x':=.cells aU cp (hb+xs.length)) hh _ Ni rfl (.inl rfl) he Ma ?_,he,fun _ h=>.inl h⟩
              ·rw[rT];refine RV.zO (cp:=cp) lI (by simp[G.set]) (by omega) (by omega)
              ·simp only[RB];have tO:∀(l:List Value)(i:Nat)(vs:List Value),(putCells l i vs).length=l.length:=by intro l i vs;induction vs generalizing l i<;>grind[putCells]
               refine⟨by simp;omega,by grind,by simp;omega,_,ce,setRow_heap w aU c _ ce _ h5,by grind,?_ ⟩;have e5:(putCells c.toList hb news).take (cs++xs).length=c.toList.take hb++news:=by rw[jW _ _ _ (by grind)];grind
               rw[List.toList_toArray,e5];exact aT.append (aT.ext he _ _ h7) (aT.ext he _ _ f3)
             ·have zQ:(Builtin.firstCells i.size len (.slice (some ⟨aU,0,none⟩) len cap)).run P w.drew=.ok (c.toList.take hb).toArray w.drew:=by
               have hl:(c.toList.take hb).length=len*i.size:=by simp;omega
               have:=run_loadCells_list (P:=P) w.drew ⟨aU,0,none⟩ (c.toList.take hb) (fun j x hj=>by
                rw[Addr.gD,aaY];rw[abI]at hj;split at hj
                ·have h5':w.drew.heap[aU]? =some (.cells c ce (0,0)):=h5;grind[World.cell?]
                ·cases hj)
               grind[Builtin.firstCells]
              obtain⟨w',Fc,k1,rfl,k3,k4⟩:=DE (some ⟨aU,0,none⟩) len cap (c.toList.take hb) cs h8 h7.length h2 (by simp;omega) zQ (by omega) (by simp_all);have DF:GB.step (some (.cells aU cp hb)) (some (.cells w.heap.size (Fc*i.size) (hb+xs.length))):=by
               right;refine⟨_,_,_,rfl,?_⟩;have:0<xs.length:=by rw[Pq];exact Nat.mul_pos (by omega) h0
               omega
              have Ma:∀j,j<w.drew.heap.size->some j≠some aU->(w.drew.alloc (.cells ((c.toList.take hb).toArray++eA.toArray++Builtin.zeroCells z.cells (Fc - (len+n'))) e)).heap[j]? =w.drew.heap[j]? :=fun j hj _=>cE _ _ hj
              have he:cg g w.drew (g.set b (.cells w.heap.size (Fc*i.size) (hb+xs.length))) (w.drew.alloc (.cells ((c.toList.take hb).toArray++eA.toArray++Builtin.zeroCells z.cells (Fc - (len+n'))) e)):=cg.grow (hh.drew.M2 Ni rfl) Ni rfl DF (.inr ⟨_,rfl,aaP _⟩) rfl rfl rfl (by simp) Ma;refine⟨_,_,_,k1,.inl ⟨_,rfl,?_⟩,az.grow hh.drew _ Ni rfl (.inr ⟨_,rfl,aaP _⟩) he Ma ?_,(eO g w).trans he,fun _ h=>.inl h⟩
              ·rw[rT];refine RV.zO (cp:=Fc*i.size) lI (by simp[G.set]) (by omega) (by omega)
              ·simp only[RB];refine⟨by simp;omega,by grind,?_,_,e,bA _ _,by grind,?_ ⟩
               ·grind
               ·have e5:((c.toList.take hb).toArray++eA.toArray++Builtin.zeroCells z.cells (Fc - (len+n'))).toList.take (cs++xs).length=c.toList.take hb++eA:=by grind
                rw[e5];exact aT.append (aT.ext ((eO g w).trans he) _ _ h7) (aT.ext he _ _ L_)
          ·rename_i hg;cases hc:(Nat.beq hb 0&&Nat.beq off 0&&Nat.beq len 0)with
            |false=>grind
            |true=>
             rw[hc]at ha;simp only[aaJ]at ha;simp only[aaD]at hc;have q1:=aaM hc.1.1;have q2:=aaM hc.1.2;have q3:=aaM hc.2;subst q1;subst q2;subst q3;obtain⟨xb,qq⟩:=hh.back b _ hg;obtain⟨_,yb,We,hr⟩:=hh.live b xb qq;rw[hg]at We;simp only[aaC]at We;subst We;cases xb with
              |cells=>grind[RB]
              |obj=>grind[RB]
              |nil=>
               have lI:=RV.cV dy;obtain⟨_,_,_,Z8⟩:=RV.xe dy qq;split at ha
               ·simp only[aaC,aaE]at ha;obtain⟨rfl,rfl⟩:=ha;have JL:n'=0:=by
                 have U6:n'*i.size=0:=by grind
                 rcases acz.1 U6 with h|h<;>omega
                subst JL;have Z9:=lH (ty:=ty) (base:=none) (dN:=0) (kR:=0) ht hu hi f1 f2 (aaP _) (fun a h=>by cases h) (fun _=>rfl);refine Good.val (x:=.slice none 0 0) hh (Fb _ _ _ Z8 Z9) ?_;grind
               ·rename_i fq;cases Mb:Nat.ble (xs.length*(i.bytes+1)) bI with
                 |false=>grind
                 |true=>
                  rw[Mb]at ha;simp only[aaJ,aaC,aaE]at ha;obtain⟨rfl,rfl⟩:=ha;have pD:0<n':=by grind
                  obtain⟨w',cap,k1,rfl,k3,k4⟩:=DE none 0 0 [] [] Z8 rfl rfl (by simp) (by simp[Builtin.firstCells]) (by omega) (by simp_all);have Qd:0<xs.length:=by grind
                  have Ma:∀j,j<w.drew.heap.size->some j≠none->(w.drew.alloc (.cells (([]:List Value).toArray++eA.toArray++Builtin.zeroCells z.cells (cap - (0+n'))) e)).heap[j]? =w.drew.heap[j]? :=fun j hj _=>cE _ _ hj
                  have he:cg g w.drew (g.set b (.cells w.heap.size (cap*i.size) xs.length)) (w.drew.alloc (.cells (([]:List Value).toArray++eA.toArray++Builtin.zeroCells z.cells (cap - (0+n'))) e)):=cg.grow (hh.drew.M2 qq rfl) qq rfl (.inr ⟨_,_,_,rfl,Qd⟩) (.inr ⟨_,rfl,aaP _⟩) rfl rfl rfl (by simp) Ma;refine⟨_,_,_,k1,.inl ⟨_,rfl,?_⟩,az.grow hh.drew _ qq rfl (.inr ⟨_,rfl,aaP _⟩) he Ma ?_,(eO g w).trans he,fun _ h=>.inl h⟩
                  ·rw[rT,aaY];refine RV.zO (cp:=cap*i.size) lI (by simp[G.set]) (by omega) (by omega)
                  ·simp only[RB];refine⟨trivial,iL,by grind,_,e,bA _ _,by grind,?_ ⟩;have:((([]:List Value).toArray++eA.toArray++Builtin.zeroCells z.cells (cap - (0+n'))).toList).take xs.length=eA:=by grind
                   rw[this];exact aT.ext he _ _ L_
          ·cases ha
       ·rename_i es ex;cases hc:(es.all (fun e=>Nat.beq e.length i.size)&& !xs.isEmpty&&Nat.ble ((es.flatten.length+xs.length)*(i.bytes+1)) bI)with
         |false=>grind
         |true=>
          rw[hc]at ha;simp only[aaJ,aaC,aaE]at ha;obtain⟨rfl,rfl⟩:=ha;simp only[aaD]at hc;rw[ex]at dy;simp only[RV]at dy;obtain⟨hd,a0,hv⟩:=dy;have Wf:RV g w (.d (.list es)) (a.eval x):=by grind[RV]
          have hsc:bt H i.size (.d (.list es))=some (es.flatten.map .d):=by simp only[bt,hc.1.1,aaJ]
          obtain⟨m,ky,q1,q2,q3,q4⟩:=jd (P:=P) hsc (RV.ext (eO g w) _ _ Wf) hh.drew h0;rw[hv]at q1 q2;have hm:m=es.length:=by simp_all[Builtin.lenOf]
          subst hm;have hlf:es.flatten.length=es.length*i.size:=by have:=q3.length;grind
          have pD:0<n':=by rcases Nat.eq_zero_or_pos n' with h|h;all_goals simp_all
          obtain⟨w',cap,k1,rfl,k3,k4⟩:=DE a0 es.length es.length ky (es.flatten.map .d) hv q3.length (by simp[eK]) q4 q2 (by omega) (by rw[aaQ];simp_all);have he:=cg.new (w:=w.drew) hh.drew jT (.cells (ky.toArray++eA.toArray++Builtin.zeroCells z.cells (cap - (es.length+n'))) e) (.cells w.heap.size (cap*i.size) (es.flatten.length+xs.length)) rfl;have Qe:(es.length+n')*i.size<=cap*i.size:=abc _ k3;rw[acE]at Qe;refine⟨_,_,_,k1,.inl ⟨_,rfl,?_⟩,az.new hh.drew jT _ _ _ rfl ?_,(eO g w).trans he,fun _ h=>h⟩
          ·rw[rT];refine RV.zO (cp:=cap*i.size) (.inr rfl) (by simp[G.add]) (by omega) (by omega)
          ·have hL:(es.flatten.map V.d++xs).length=es.flatten.length+xs.length:=by grind
           simp only[RB,hL];refine⟨trivial,by simp_all[ac6,acn,eK],by omega,_,e,bA _ _,by grind,?_ ⟩;have e5:(ky.toArray++eA.toArray++Builtin.zeroCells z.cells (cap - (es.length+n'))).toList.take (es.flatten.length+xs.length)=ky++eA:=by grind
           rw[e5];exact aT.append (aT.ext he _ _ q3) (aT.ext he _ _ L_)
       ·cases ha
end
end Fw
/-
  Operations, further: maps, min and max; all together.
-/
namespace Fw
open Go
section
variable {P:Program}{a:Act}{o:Oper}{g:G}{w:World}{ρ:a_->V}{H:ao}{ns:Nat}
variable {kk:dq}{t:TypeId}{v:V}
def gw(P:Program)(t:TypeId):dq->Prop| .int=>∃k,P.underlying t=some (.int k)| .str=>P.underlying t=some .string| .bool=>P.underlying t=some .bool
theorem qv(h:gw P t kk)(e:Bool)(v:Value):(Instr.checkKey e 10000 t v).run P w=.ok () w:=by
 have key:∀n,(Instr.checkKey e (n+1) t v).run P w=.ok () w:=by
  intro n;cases kk with
   |int=>obtain⟨k,hk⟩:=h;simp[Instr.checkKey,run_underlying hk]
   |str=>simp only[gw]at h;simp[Instr.checkKey,run_underlying h]
   |bool=>simp only[gw]at h;simp[Instr.checkKey,run_underlying h]
 grind
theorem Co(s t:ByteArray):(s==t)=Fw.ai s.data.toList t.data.toList:=by
 have e:(s==t)=(s.data==t.data):=by cases s;cases t;rfl
 rw[e,eu];by_cases h:s.data=t.data;all_goals simp_all
theorem Cp{d:TypeDesc}{k x:D}{kv xv:Value}{im:Nat->Prop}(ht:gw P t kk)(hd:P.underlying t=some d)(hk:iJ kk k=true)(h1:Rd w im k kv)(h2:Rd w im x xv){b:Bool}(h:E4 k x=some b):Instr.sameNow d kv xv=some b:=by
 cases kk with
  |int=>
   obtain⟨ik,G7⟩:=ht;rw[hd]at G7;simp only[aaC]at G7;subst G7;cases k with
    |int k1 n1=>cases x<;>grind[Rd,E4,Instr.sameNow]
    |_=>grind[iJ]
  |str=>
   simp only[gw]at ht;rw[hd]at ht;simp only[aaC]at ht;subst ht;cases k with
    |str k1=>cases x<;>grind[Rd,E4,Option.some.injEq,Instr.sameNow,Co]
    |_=>grind[iJ]
  |bool=>
   simp only[gw]at ht;rw[hd]at ht;simp only[aaC]at ht;subst ht;cases k with
    |bool k1=>cases x<;>grind[Rd,E4,Instr.sameNow]
    |_=>grind[iJ]
def RM(g:G)(w:World):List (D×V)->List MapEntry->Prop|[],[]=>True|(k,v)::es,x::xs=>(Rd w (cZ g w) k x.key/\RV g w v x.val)/\RM g w es xs|_,_=>False
theorem nc{kk:dq}{t:TypeId}{d:TypeDesc}{k:D}{kv:Value}(ht:gw P t kk)(hd:P.underlying t=some d)(hk:iJ kk k=true)(h1:Rd w (cZ g w) k kv):∀{es:List (D×V)}{xs:List MapEntry}{i:Nat}{r:Option (Nat×V)},RM g w es xs->xa k es i=some r->(r=none/\Instr.findNow d kv xs i=some none)\/∃j v x,r=some (i+j,v)/\xs[j]? =some x/\Instr.findNow d kv xs i=some (some (i+j,x.val))/\RV g w v x.val/\Instr.sameNow d kv x.key=some true/\j<es.length
 |[],[],i,r,_,h=>by simp[xa]at h;subst h;exact .inl ⟨rfl,rfl⟩
 |(k2,v2)::es,x::xs,i,r,hm,h=>by
  simp only[RM]at hm;simp only[xa]at h;cases hb:E4 k k2 with
   |none=>grind
   |some b=>
    have hs:=Cp ht hd hk h1 hm.1.1 hb;cases b with
     |true=>simp[hb]at h;subst h;exact .inr ⟨0,v2,x,rfl,rfl,by simp[Instr.findNow,hs],hm.1.2,hs,by simp⟩
     |false=>
      simp only[hb]at h;rcases nc ht hd hk h1 hm.2 h with⟨e1,e2⟩|⟨j,v,y,e1,e2,e3,e4,e5,e6⟩
      ·grind[Instr.findNow]
      ·refine .inr ⟨j+1,v,y,by grind,by grind,?_,e4,e5,by simp;omega⟩;grind[Instr.findNow]
 |[],_::_,_,_,h,_=>by grind[RM]
 |_::_,[],_,_,h,_=>by grind[RM]
theorem RM.of{es:List (D×V)}{bO:Array MapEntry}(hs:bO.size=es.length)(h:∀(i:Nat)(k:D)(v:V),es[i]? =some (k,v)->∃x,bO[i]? =some x/\Rd w (cZ g w) k x.key/\RV g w v x.val):RM g w es bO.toList:=by
 have hl:es.length=bO.toList.length:=by simp[hs]
 have h':∀(i:Nat)(k:D)(v:V),es[i]? =some (k,v)->∃x,bO.toList[i]? =some x/\Rd w (cZ g w) k x.key/\RV g w v x.val:=by grind
 clear h hs;generalize bO.toList=xs at*;induction es generalizing xs with
  |nil=>grind[RM]
  |cons e es ih=>
   obtain⟨k,v⟩:=e;cases xs with
    |nil=>simp at hl
    |cons x xs=>simp only[RM];obtain⟨y,hy,h1,h2⟩:=h' 0 k v rfl;simp at hy;subst hy;exact⟨⟨h1,h2⟩,ih xs (by grind) (fun i k v hi=>h' (i+1) k v (by grind))⟩
theorem uL{kt el:TypeId}{m k:Operand}{m' k':a_}{z:V}{ok:Bool}(ho:o.op=.lookup t m k ok)(ht:P.underlying t=some (.map kt el))(qw:gw P kt kk)(hz:GU P el=some z)(hm:ar m=some m')(hk:ar k=some k')(h:bE ρ H ns (.lookup kk z ok m' k')=some (v,none))(ev:Ev ρ a g w)(hh:az g w H):Good P a o g w ns v H:=by
 have Nj:=ev _ _ hm;have G8:=ev _ _ hk;simp only[GU,abv]at hz;obtain⟨zv,⟨i,hi,Z'⟩,zL⟩:=hz;have Wg:RV g w z zv:=GX zL;simp only[bE]at h;split at h
 ·rename_i kd ek;cases uM:iJ kk kd with
   |false=>grind
   |true=>
    rw[uM]at h;simp only[aaJ]at h;split at h
    ·rename_i es Nl;rw[ek]at G8;simp only[RV]at G8;have hd:∃d,P.underlying kt=some d:=by
      cases kk with
       |int=>obtain⟨q,hq⟩:=qw;grind
       |str=>exact⟨_,qw⟩
       |bool=>exact⟨_,qw⟩
     obtain⟨d,hd⟩:=hd;have Wh:∃xs:Array MapEntry,RM g w es xs.toList/\((a.eval m=.map none/\xs= #[])\/∃r clock,a.eval m=.map (some r)/\w.heap[r]? =some (.map xs clock)):=by
      cases hmv:ρ m' with
       |mX=>grind[RV,uF,Option.some.injEq,RM]
       |map b=>
        rw[hmv]at Nj Nl;simp only[uF]at Nl;split at Nl
        ·rename_i uK hg;simp only[aaC]at Nl;subst Nl;obtain⟨x,hx⟩:=hh.back b _ hg;obtain⟨_,y,hy,hr⟩:=hh.live b x hx;rw[hg]at hy;simp only[aaC]at hy;subst hy;simp only[RV]at Nj;obtain⟨aU,rfl,Kb⟩:=Nj.2 x hx;simp only[RB]at hr;obtain⟨bO,clock,h1,h2,h3,h4,h5⟩:=hr;exact⟨bO,RM.of h2 (fun i k v hi=>by grind),.inr ⟨aU,clock,Kb,h1⟩⟩
        grind
       |_=>grind[uF]
     obtain⟨xs,Cn,E9⟩:=Wh;have Nc:=fun b=>qv (P:=P) (w:=w) qw b (a.eval k)
     split at h
     ·rename_i j u hf;simp only[aaC,aaE,acm]at h;rcases nc qw hd uM G8 Cn hf with⟨e1,_⟩|⟨j',v',x,e1,e2,e3,e4,_⟩
      ·cases e1
      ·simp only[aaC,aaE]at e1;obtain⟨_,rfl⟩:=e1;refine Good.val (x:=if ok then .tuple #[x.val,.bool true]else x.val) hh ?_ ?_
       ·rcases E9 with⟨q1,rfl⟩|⟨r,clock,q1,q2⟩
        ·grind
        ·simp[execOp,ho,Instr.lookup,run_underlying ht,q1,getObj,Sem.run,q2,Nc,Instr.findKey,run_underlying hd,e3]
       ·rw[←h];cases ok with
         |true=>simp only[aaJ,abL,RV];exact⟨_,rfl,by simp only[aT];exact⟨e4,RV.E6 _,trivial⟩⟩
         |false=>grind
     ·rename_i hf;simp only[aaC,aaE,acm]at h;rcases nc qw hd uM G8 Cn hf with⟨_,e3⟩|⟨j',v',x,e1,_⟩
      ·refine Good.val (x:=if ok then .tuple #[zv,.bool false]else zv) hh ?_ ?_
       ·rcases E9 with⟨q1,rfl⟩|⟨r,clock,q1,q2⟩
        ·have Wi:=Nc true;simp[execOp,ho,Instr.lookup,run_underlying ht,q1,Wi,Instr.findKey,run_underlying hd,Instr.findNow,qp hi Z']
        ·simp[execOp,ho,Instr.lookup,run_underlying ht,q1,getObj,Sem.run,q2,Nc,Instr.findKey,run_underlying hd,e3,qp hi Z']
       ·rw[←h];cases ok with
         |true=>simp only[aaJ,abL,RV];exact⟨_,rfl,by simp only[aT];exact⟨Wg,RV.E6 _,trivial⟩⟩
         |false=>grind
      ·cases e1
     ·cases h
    ·cases h
 ·cases h
theorem o9(w:World)(k:Nat)(x:Obj)(h:k<w.heap.size):({w with heap:=w.heap.setIfInBounds k x}:World).heap[k]? =some x:=by simp[h]
theorem nd(w:World)(k j:Nat)(x:Obj)(h:j≠k):({w with heap:=w.heap.setIfInBounds k x}:World).heap[j]? =w.heap[j]? :=by grind
theorem zR{d:TypeDesc}{kv xv:Value}(ht:gw P t kk)(hd:P.underlying t=some d)(h:Instr.sameNow d kv xv=some true):Instr.sameBits 10000 xv kv=true:=by
 have Nn:(∃q,d=.int q)\/d=.string\/d=.bool:=by cases kk<;>grind[Option.some.injEq,gw]
 rcases Nn with⟨q,rfl⟩|rfl|rfl
 ·cases kv<;>cases xv<;>simp[Instr.sameNow]at h;grind[Instr.sameBits]
 ·cases kv<;>cases xv<;>simp[Instr.sameNow]at h;grind[Co,eu,Instr.sameBits]
 ·cases kv<;>cases xv<;>simp[Instr.sameNow]at h;grind[Instr.sameBits]
theorem uN{kt el:TypeId}{m k x:Operand}{m' k' x':a_}{wr:Wr}(ho:o.op=.mapUpdate t m k x)(ht:P.underlying t=some (.map kt el))(qw:gw P kt kk)(hm:ar m=some m')(hk:ar k=some k')(hx:ar x=some x')(h:bE ρ H ns (.mY kk m' k' x')=some (v,wr))(ev:Ev ρ a g w)(hh:az g w H):Good P a o g w ns v (br H wr):=by
 have Nj:=ev _ _ hm;have G8:=ev _ _ hk;have dy:=ev _ _ hx;simp only[bE]at h;split at h
 ·rename_i b kd em ek;cases uM:iJ kk kd with
   |false=>grind
   |true=>
    rw[uM]at h;simp only[aaJ]at h;split at h
    ·rename_i es hg;rw[ek]at G8;rw[em]at Nj;simp only[RV]at G8 Nj;have hd:∃d,P.underlying kt=some d:=by
      cases kk with
       |int=>obtain⟨q,hq⟩:=qw;grind
       |str=>exact⟨_,qw⟩
       |bool=>exact⟨_,qw⟩
     obtain⟨d,hd⟩:=hd;obtain⟨xb,qq⟩:=hh.back b _ hg;obtain⟨_,y,hy,hr⟩:=hh.live b xb qq;rw[hg]at hy;simp only[aaC]at hy;subst hy;obtain⟨aU,rfl,Kb⟩:=Nj.2 xb qq;simp only[RB]at hr;obtain⟨bO,clock,h1,h2,h3,h4,h5⟩:=hr;have b8:aU<w.heap.size:=(abP.1 h1).1;have Cn:RM g w es bO.toList:=RM.of h2 (fun i k v hi=>by grind);have Nc:=fun b=>qv (P:=P) (w:=w) qw b (a.eval k)
     have tQ:∀o',cg g w g {w with heap:=w.heap.setIfInBounds aU o'}:=fun o'=>cg.write qq rfl (hh.zJ qq rfl) rfl rfl rfl (by simp) (fun j hj=>nd w aU j o' hj)
     split at h
     ·rename_i j u hf;simp only[aaC,aaE]at h;obtain⟨rfl,rfl⟩:=h;rcases nc qw hd uM G8 Cn hf with⟨e1,_⟩|⟨j',v',x0,e1,e2,e3,e4,e5,e6⟩
      ·cases e1
      ·simp only[aaC,aaE,aaY]at e1;obtain⟨rfl,rfl⟩:=e1;rw[aaY]at e3;have e2':bO[j]? =some x0:=by grind
       have Wj:=zR qw hd e5;refine⟨g,_,.skip,?_,.inr ⟨rfl,rfl⟩,?_,tQ (.map (bO.modify j fun e=>{e with key:=a.eval k,val:=a.eval x}) clock),fun _ h=>.inl h⟩
       ·simp[execOp,ho,Instr.mapUpdate,run_underlying ht,Kb,getObj,setObj,Sem.run,h1,Nc,Instr.findKey,run_underlying hd,e3,e2',Instr.keyThatStays,Wj]
       ·refine az.write hh _ qq rfl (tQ _) (fun q hq=>nd w aU q _ hq) ?_;simp only[RB];refine⟨_,clock,o9 w aU _ b8,by simp[h2],fun i k2 v2 hi=>?_,?_ ⟩
        ·by_cases Pt:i=j
         ·subst Pt;rw[aa9 (by omega)]at hi;simp only[aaC,aaE]at hi;obtain⟨rfl,rfl⟩:=hi;refine⟨{x0 with key:=a.eval k,val:=a.eval x},by grind,?_,Rd.keeps (tQ _).keeps _ _ G8,RV.ext (tQ _) _ _ dy⟩;grind
         ·rw[acp (by omega)]at hi;obtain⟨z,z1,z2,z3,z4⟩:=h3 i k2 v2 hi;exact⟨z,by grind,z2,Rd.keeps (tQ _).keeps _ _ z3,RV.ext (tQ _) _ _ z4⟩
        grind
     ·rename_i hf;simp only[aaC,aaE]at h;obtain⟨rfl,rfl⟩:=h;rcases nc qw hd uM G8 Cn hf with⟨_,e3⟩|⟨j',v',x0,e1,_⟩
      ·refine⟨g,_,.skip,?_,.inr ⟨rfl,rfl⟩,?_,tQ (.map (bO.push {key:=a.eval k,val:=a.eval x,born:=clock}) (clock+1)),fun _ h=>.inl h⟩
       ·simp[execOp,ho,Instr.mapUpdate,run_underlying ht,Kb,getObj,setObj,Sem.run,h1,Nc,Instr.findKey,run_underlying hd,e3]
       ·refine az.write hh _ qq rfl (tQ _) (fun q hq=>nd w aU q _ hq) ?_;simp only[RB];refine⟨_,clock+1,o9 w aU _ b8,by simp[h2],fun i k2 v2 hi=>?_,?_ ⟩
        ·by_cases Pt:i<es.length
         ·rw[abU Pt]at hi;obtain⟨z,z1,z2,z3,z4⟩:=h3 i k2 v2 hi;have Qf:i<bO.size:=by omega
          exact⟨z,by grind,by omega,Rd.keeps (tQ _).keeps _ _ z3,RV.ext (tQ _) _ _ z4⟩
         ·have Z_:i=es.length:=by grind
          subst Z_;rw[abQ (aaP _)]at hi;simp at hi;obtain⟨rfl,rfl⟩:=hi;exact⟨{key:=a.eval k,val:=a.eval x,born:=clock},by grind,by simp,Rd.keeps (tQ _).keeps _ _ G8,RV.ext (tQ _) _ _ dy⟩
        grind
      ·cases e1
     ·cases h
    ·cases h
 ·cases h
theorem xf{isMax:Bool}{k:IntKind}:∀{l:List V}{xs:List Value}{n r:Int},aT g w l xs->pC isMax n l k=some r->(xs.foldlM (if isMax then Builtin.max2 else Builtin.min2) (.int k n)).run P w=.ok (.int k r) w
 |[],[],n,r,_,h=>by simp_all[pC]
 |v::l,x::xs,n,r,hv,h=>by
  simp only[aT]at hv;cases v with
   |d y=>
    cases y with
     |int k2 m=>
      simp only[pC]at h;split at h
      ·rename_i hk;subst hk;have hx:=RV.int hv.1;subst hx;have ih:=xf hv.2 h;simp only[List.foldlM_cons,Sem.run_bind];cases isMax with
        |true=>simp_all[abL,Builtin.max2,Sem.run_pure,Result.andThen_ok]
        |false=>simp_all[abn,abM,Builtin.min2,Sem.run_pure,Result.andThen_ok]
      ·cases h
     |_=>simp[pC]at h
   |_=>simp[pC]at h
 |[],_::_,_,_,h,_=>by grind[aT]
 |_::_,[],_,_,h,_=>by grind[aT]
theorem zS{isMax:Bool}{args:Array Operand}{ts:Array TypeId}{l:List a_}(ho:o.op=.call {callee:=.builtin (if isMax then .max else .min),args:=args,argTypes:=ts})(hl:bW ar args.toList=some l)(h:bE ρ H ns (.lz isMax l)=some (v,none))(ev:Ev ρ a g w)(hh:az g w H):Good P a o g w ns v H:=by
 have dU:=jX ev hl;simp only[bE]at h;split at h
 ·rename_i k n Cq e;simp only[aaG,aaE,acm]at h;obtain⟨r,hr,rfl⟩:=h;rw[e]at dU;cases hx:args.toList.map a.eval with
   |nil=>grind[aT]
   |cons x xs=>
    rw[hx]at dU;simp only[aT]at dU;have No:=RV.int dU.1;subst No;have hf:=xf (P:=P) dU.2 hr;have nf:(args.map a.eval).toList=.int k n::xs:=by simp_all
    refine Good.val hh ?_ (RV.Cl k r);cases isMax with
     |true=>simp_all[Builtin.max_,execOp,resolve,invoke,builtin]
     |false=>simp_all[Builtin.min_,execOp,resolve,invoke,builtin]
 ·cases h
end
end Fw
/-
  Operations, further: structs held against structs, the bytes of a string, make.
-/
namespace Fw
open Go
section
variable {P:Program}{a:Act}{o:Oper}{g:G}{w:World}{ρ:a_->V}{H:ao}{ns:Nat}
variable {t e:TypeId}{x':a_}{k:dq}{w:World}{n:Nat}{v:V}{wr:Wr}
theorem Cr(h:yd P t=some k):gw P t k:=by
 unfold yd at h;split at h<;>simp only[aaC,reduceCtorEq]at h<;>subst h
 ·rename_i q hq;exact⟨q,hq⟩
 ·rename_i hq;exact hq
 ·rename_i hq;exact hq
theorem wM{x y:D}{vx vy:Value}{im:Nat->Prop}{b:Bool}(ht:gw P t k)(hk:iJ k x=true)(h:E4 x y=some b)(h1:Rd w im x vx)(h2:Rd w im y vy)(d:Nat):(Op.equalIn (d+1) t vx vy).run P w=.ok b w:=by
 cases k with
  |int=>obtain⟨q,hq⟩:=ht;cases x<;>simp[iJ]at hk;cases y<;>simp[E4]at h;obtain⟨rfl,rfl⟩:=h;simp only[Rd]at h1 h2;subst h1;subst h2;simp[Op.equalIn,run_underlying hq]
  |str=>simp only[gw]at ht;cases x<;>simp[iJ]at hk;cases y<;>simp[E4]at h;simp only[Rd]at h1 h2;obtain⟨s1,rfl,rfl⟩:=h1;obtain⟨s2,rfl,rfl⟩:=h2;have:=Co s1 s2;rw[h]at this;simp[Op.equalIn,run_underlying ht,this]
  |bool=>simp only[gw]at ht;cases x<;>simp[iJ]at hk;cases y<;>simp[E4]at h;subst h;simp only[Rd]at h1 h2;subst h1;subst h2;simp[Op.equalIn,run_underlying ht]
theorem zT(h:gw P t k):(isAgg t).run P w=.ok false w:=by
 cases k with
  |int=>obtain⟨q,hq⟩:=h;simp[isAgg,run_underlying hq]
  |str=>simp only[gw]at h;simp[isAgg,run_underlying h]
  |bool=>simp only[gw]at h;simp[isAgg,run_underlying h]
theorem tj(d:Nat){xs ys:Array Value}:∀{fs:List Field}{n:Nat}{ks:List dq}{us vs:List V}{b:Bool},gX P n fs=some ks->jj ks us vs=some b->aT g w us (xs.toList.drop n)->aT g w vs (ys.toList.drop n)->(Op.eqFields (d+1) xs ys fs).run P w=.ok b w
 |[],n,ks,us,vs,b,h1,h2,_,_=>by simp only[gX,aaC]at h1;subst h1;cases us<;>cases vs<;>simp[jj]at h2;simp_all[Op.eqFields]
 |f::fs,n,ks,us,vs,b,h1,h2,h3,h4=>by
  simp only[gX]at h1;split at h1
  ·rename_i hc;split at h1
   ·rename_i k ks' hk Np;simp only[aaC]at h1;subst h1;cases us with
     |nil=>grind[jj]
     |cons u us=>
      obtain⟨x,rfl⟩:∃x,u=.d x:=by cases u<;>first|exact⟨_,rfl⟩|grind[jj]
      cases vs with
       |nil=>grind[jj]
       |cons v vs=>
        obtain⟨y,rfl⟩:∃y,v=.d y:=by cases v<;>first|exact⟨_,rfl⟩|grind[jj]
        simp only[jj]at h2;cases uM:iJ k x with
         |false=>grind
         |true=>
          rw[uM]at h2;simp only[aaJ]at h2;have qw:=Cr hk;have cell:∀(zs:Array Value)(z:D)(ws:List V),aT g w (.d z::ws) (zs.toList.drop n)->∃c,zs[n]? =some c/\Rd w (cZ g w) z c/\aT g w ws (zs.toList.drop (n+1)):=by
           intro zs z ws h;cases hd:zs.toList.drop n with
            |nil=>grind[aT]
            |cons c cs=>
             rw[hd]at h;simp only[aT,RV]at h;refine⟨c,?_,h.1,?_⟩
             ·have:(zs.toList.drop n)[0]? =some c:=by grind
              grind
             ·have:zs.toList.drop (n+1)=cs:=by rw[←abW,hd];rfl
              grind
          obtain⟨c1,a1,a2,a3⟩:=cell xs x us h3;obtain⟨c2,b1,b2,b3⟩:=cell ys y vs h4;have Cs:=zT (P:=P) (w:=w) qw;have p1:(part f.type xs f.offset).run P w=.ok c1 w:=by simp_all[part]
          have p2:(part f.type ys f.offset).run P w=.ok c2 w:=by simp_all[part]
          simp only[Op.eqFields,hc.2,ne_eq,not_false_eq_true,abL,Sem.run_bind,p1,p2,Result.andThen_ok];cases hde:E4 x y with
           |none=>grind
           |some r=>
            rw[wM qw uM hde a2 b2 d];rw[hde]at h2;cases r with
             |true=>simp only at h2;simp only[Result.andThen_ok,abF,abn,abM];exact tj d Np h2 a3 b3
             |false=>simp_all
   ·cases h1
  ·cases h1
theorem Mc{op:BinOp}{yt:TypeId}{x y:Operand}{y':a_}{ks:List dq}{us vs:List V}{b neg:Bool}(ho:o.op=.binOp op t x y yt)(kx:(op=.eql/\neg=false)\/(op=.neq/\neg=true))(hp:jV P t=some ks)(hx:ar x=some x')(hy:ar y=some y')(e1:ρ x'=.agg us)(e2:ρ y'=.agg vs)(h:jj ks us vs=some b)(ev:Ev ρ a g w)(hh:az g w H):Good P a o g w ns (.d (.bool (bif neg then !b else b))) H:=by
 have dy:=ev _ _ hx;have gk:=ev _ _ hy;rw[e1]at dy;rw[e2]at gk;simp only[RV]at dy gk;obtain⟨xs,f1,r1⟩:=dy;obtain⟨ys,f2,r2⟩:=gk;unfold jV at hp;split at hp
 ·rename_i fs hu;split at hp
  ·rename_i hc;have JK:P.fieldsOf t=fs:=by simp[Program.fieldsOf,hu]
   have key:∀d,(Op.equalIn (d+2) t (.agg xs) (.agg ys)).run P w=.ok b w:=by intro d;rw[run_equalIn_struct w (d+1) t xs ys (by grind) hc.1,JK];exact tj d hp h (by simpa using r1) (by grind)
   have heq:(Op.equal t (.agg xs) (.agg ys)).run P w=.ok b w:=key 9998;have tR:(eqGuard op t x y (.agg xs) (.agg ys)).run P w=.ok () w:=run_eqGuard_agg w op t x y xs ys hc.2;refine Good.val (x:=.bool (bif neg then !b else b)) hh ?_ (RV.E6 _);rcases kx with⟨rfl,rfl⟩|⟨rfl,rfl⟩<;>simp[execOp,ho,f1,f2,tR,binOp,heq]
  ·cases hp
 ·cases hp
theorem qx{b o k:Nat}(h:k≠b):(w.freeze ⟨b,o,none⟩ n).heap[k]? =w.heap[k]? :=by unfold World.freeze;grind
theorem tk{a:Addr}:(w.freeze a n).heap.size=w.heap.size:=by unfold World.freeze;grind
theorem cg.Fe{g:G}{H:ao}(hh:az g w H)(o:Obj)(q n:Nat):cg g w g ((w.alloc o).freeze ⟨w.heap.size,q,none⟩ n):=by
 have hk:∀k,k<w.heap.size->((w.alloc o).freeze ⟨w.heap.size,q,none⟩ n).heap[k]? =w.heap[k]? :=by intro k hk;rw[qx (by omega),cE _ _ hk]
 have h1:∀(w':World)(a:Addr),(w'.freeze a n).os=w'.os/\(w'.freeze a n).tape=w'.tape/\(w'.freeze a n).output=w'.output:=by intro w' a;unfold World.freeze;grind
 obtain⟨e1,e2,e3⟩:=h1 (w.alloc o) ⟨w.heap.size,q,none⟩;refine⟨e1,e2,e3,by grind,fun k tP=>⟨⟨by rw[tk];have:=tP.1;simp;omega,tP.2⟩,hk k tP.1⟩,fun _ h=>h,fun _ _=>GB.step.refl _,rfl,fun k tP=>hk k (hh.fo k tP).1⟩
theorem run_mark(c:Array Value)(e:TypeId)(w:World):(markStringish ⟨w.heap.size,0,none⟩).run P (w.alloc (.cells c e))=.ok () ((w.alloc (.cells c e)).freeze ⟨w.heap.size,c.size,none⟩ 1):=by
 have h:(w.alloc (.cells c e)).shape? w.heap.size=some (e,c.size):=by unfold World.shape?;rw[bA]
 grind[markStringish,Sem.run_bind,run_shape,Result.andThen_ok,run_freeze]
theorem Ct{s d:TypeId}{x:Operand}{l:List UInt8}(ho:o.op=.convert s d x)(hs:P.underlying s=some .string)(hd:P.underlying d=some (.slice e))(he:P.underlying e=some (.int .u8))(hx:ar x=some x')(ex:ρ x'=.d (.str l))(ev:Ev ρ a g w)(hh:az g w H):Good P a o g w ns (.d (.list (l.map fun b=>[.int .u8 b.toNat]))) H:=by
 have hv:=ev _ _ hx;rw[ex]at hv;obtain⟨b,hb,rfl⟩:=RV.str hv;have fA:∃(cap:Nat)(fz:Nat),b.size<=cap/\(execOp a.eval o).run P w=.ok (.value (.slice (some ⟨w.heap.size,0,none⟩) b.size cap)) ((w.drew.alloc (.cells ((b.data.map fun x=>(Value.int .u8 x.toNat))++Array.replicate (cap - b.size) (.int .u8 0)) e)).freeze ⟨w.heap.size,fz,none⟩ 1):=by
  have hm:=run_mark (P:=P) ((b.data.map fun(x:UInt8)=>(Value.int .u8 x.toNat))++Array.replicate ((Question.appendCap b.size 0 e).cut (w.tape w.drawn (.appendCap b.size 0 e)) - b.size) (Value.int .u8 0)) e w.drew;refine⟨(Question.appendCap b.size 0 e).cut (w.tape w.drawn (.appendCap b.size 0 e)),((b.data.map fun(x:UInt8)=>(Value.int .u8 x.toNat))++Array.replicate ((Question.appendCap b.size 0 e).cut (w.tape w.drawn (.appendCap b.size 0 e)) - b.size) (Value.int .u8 0)).size,?_,?_⟩
  ·simp[Question.cut]
  ·have Wk:w.drew.heap.size=w.heap.size:=rfl;rw[Wk]at hm;simp only[execOp,ho,hb,convert,Sem.run_bind,run_underlying hs,run_underlying hd,run_underlying he,Result.andThen_ok,Conv.stringToBytes,run_choose,Question.forced,newRow,run_newObj,Sem.run_pure,abn,abM];erw [hm];rfl
 obtain⟨cap,fz,Kc,hr⟩:=fA;have hhd:=hh.drew;have DG:=cg.Fe (w:=w.drew) hhd (.cells ((b.data.map fun x=>(Value.int .u8 x.toNat))++Array.replicate (cap - b.size) (.int .u8 0)) e) fz 1;have zU:=(eO g w).trans DG;have pE:∀c y k,g.γ c=some y->y.own=some k->((w.drew.alloc (.cells ((b.data.map fun x=>(Value.int .u8 x.toNat))++Array.replicate (cap - b.size) (.int .u8 0)) e)).freeze ⟨w.heap.size,fz,none⟩ 1).heap[k]? =w.heap[k]? :=by intro c y k hy hk;obtain⟨_,z,_,h3⟩:=hh.live c y hy;have:=h3.lt k hk;rw[qx (by omega)];exact cE w.drew _ this
 refine⟨g,_,_,hr,.inl ⟨_,rfl,?_⟩,hh.ext zU pE,zU,fun _ h=>.inl h⟩;have aaa:∀j,j<b.size->((w.drew.alloc (.cells ((b.data.map fun x=>(Value.int .u8 x.toNat))++Array.replicate (cap - b.size) (.int .u8 0)) e)).freeze ⟨w.heap.size,fz,none⟩ 1).cell? ⟨w.heap.size,j,none⟩=(b.data.toList[j]? ).map fun x=>Value.int .u8 x.toNat:=by
  intro j hj;have b8:w.drew.heap.size<(w.drew.alloc (.cells ((b.data.map fun x=>(Value.int .u8 x.toNat))++Array.replicate (cap - b.size) (.int .u8 0)) e)).heap.size:=by simp
  have aag:=bA w.drew (.cells ((b.data.map fun x=>(Value.int .u8 x.toNat))++Array.replicate (cap - b.size) (.int .u8 0)) e);have Wl:∃fr,((w.drew.alloc (.cells ((b.data.map fun x=>(Value.int .u8 x.toNat))++Array.replicate (cap - b.size) (.int .u8 0)) e)).freeze ⟨w.heap.size,fz,none⟩ 1).heap[w.heap.size]? =some (.cells ((b.data.map fun x=>(Value.int .u8 x.toNat))++Array.replicate (cap - b.size) (.int .u8 0)) e fr):=by unfold World.freeze;rw[aaF (by omega)];simp only[Array.getElem?_modify,abL];simp_all
  obtain⟨fr,Wl⟩:=Wl;simp only[World.cell?,Wl];have Cu:j<b.data.size:=hj;grind
 simp only[RV,Rd];refine .inr ⟨w.heap.size,0,cap,1,by simp,by simp_all,fun _=>⟨by rw[tk];simp,fun hf=>by have:=(hh.fo _ hf).1;omega,fun c y hy hk=>?_ ⟩,iu.iy fun i e' U7=>?_ ⟩
 ·obtain⟨_,z,_,h3⟩:=hh.live c y hy;have:=h3.lt _ hk;omega
 ·simp only[abz,aaG]at U7;obtain⟨c,hc,rfl⟩:=U7;have hi:i<b.size:=by have:=(aaO.1 hc).1;simp_all
  simp_all[dC,acm,aaY,Nat.mul_one,Rd]
theorem wrap_small(h:n<=bI):IntKind.i64.wrap (n:Int)=n:=by
 have h2:bI=1099511627776:=by decide
 unfold IntKind.wrap;have e1:(2:Int)^IntKind.i64.bits=18446744073709551616:=by decide
 have e2:(2:Int)^(IntKind.i64.bits - 1)=9223372036854775808:=by decide
 grind
theorem Kd{i:TypeInfo}{zs:List V}{l c:Operand}{l' c':a_}(ho:o.op=.makeSlice t l c)(ht:P.underlying t=some (.slice e))(hi:P.info? e=some i)(hz:dj P e=some zs)(hl:ar l=some l')(hc:ar c=some c')(h:bE ρ H ns (.oY i.size i.bytes zs l' c')=some (v,wr))(ev:Ev ρ a g w)(hh:az g w H)(jT:jl g ns):Good P a o g w ns v (br H wr):=by
 simp only[dj,abv]at hz;obtain⟨zv,⟨i2,qy,zL⟩,hm⟩:=hz;rw[hi]at qy;simp only[aaC]at qy;subst qy;obtain⟨hv,iL⟩:=jn (g:=g) (w:=w) hm;simp only[bE]at h;split at h
 ·rename_i ln cn el ec;cases hb:(Nat.ble ln cn&&Nat.ble (cn*(i.bytes+1)) bI&&Nat.ble cn bI&&zs.all eK&&Nat.beq zs.length i.size&&Nat.blt 0 i.size)with
   |false=>grind
   |true=>
    rw[hb]at h;simp only[aaJ,aaC,aaE]at h;obtain⟨rfl,rfl⟩:=h;simp only[aaD]at hb;have b1:=aaN hb.1.1.1.1.1;have b2:=aaN hb.1.1.1.1.2;have b3:=aaN hb.1.1.1.2;have b4:=aaM hb.1.2;have b5:0<i.size:=by simp_all
    have Ff:bI=1099511627776:=by decide
    obtain⟨kl,Pu⟩:=ew el (ev _ _ hl);obtain⟨kc,hkc⟩:=ew ec (ev _ _ hc);have Ng:zv.cells.size=i.size:=by have:=hv.length;grind
    have w1:=wrap_small (n:=ln) (by omega);have w2:=wrap_small (n:=cn) b3;have Md:i.bytes*cn<=1099511627776:=by grind
    have Wm:¬((cn:Int)<0):=by omega
    have fA:(execOp a.eval o).run P w=.ok (.value (.slice (some ⟨w.heap.size,0,none⟩) ln cn)) (w.alloc (.cells ((Array.range (cn*i.size)).map (zv.cells[·%zv.cells.size]! )) e)):=by
     have Qg:¬((ln:Int)<0):=by omega
     have hlc:¬((ln:Int)>(cn:Int)):=by omega
     by_cases JL:cn=0
     ·subst JL;have:ln=0:=by omega
      subst this;have w0:IntKind.i64.wrap 0=0:=by decide
      simp[execOp,ho,Instr.makeSlice,run_underlying ht,Pu,hkc,asInt,asIntOf,typeInfo,hi,w0,Go.sizeOf,newRow,show Array.range 0= #[]from rfl]
     ·have Pr:¬(cn=0\/i.size=0):=by omega
      have Nq:¬(281474976710656<(i.bytes:Int)*(cn:Int)):=by grind
      have Wn:¬(cn*i.size=0):=by rw[acz];omega
      have Wo:¬((cn:Int)<(ln:Int)):=by omega
      simp[execOp,ho,Instr.makeSlice,run_underlying ht,Pu,hkc,asInt,asIntOf,typeInfo,hi,w1,w2,Nq,Qg,Wo,Wm,Go.sizeOf,Wn,zeroValue,zL,newRow]
    have aah:=jT;let g':=g.add ns (.cells w.heap.size (cn*i.size) (ln*i.size));have he:=cg.new hh jT (.cells ((Array.range (cn*i.size)).map (zv.cells[·%zv.cells.size]! )) e) (.cells w.heap.size (cn*i.size) (ln*i.size)) rfl;have hle:ln*i.size<=cn*i.size:=abc _ b1;refine⟨g',_,_,fA,.inl ⟨_,rfl,?_⟩,az.new hh jT _ _ _ rfl ?_,he,fun _ h=>h⟩
    ·exact RV.zO (cp:=cn*i.size) (.inr rfl) (by simp[g',G.add]) b1 (by omega)
    ·simp only[RB];have Cv:((List.range (ln*i.size)).map fun j=>zs.getD (j%i.size) .any).all eK=true:=by simp only[aa3,aa_,ab5];rintro x ⟨j,_,rfl⟩;have:=abN j b5;grind
     refine⟨by simp,Cv,by grind,_,e,bA _ _,by simp,?_ ⟩;refine aT.ext he _ _ (aT.iy (by grind) fun j u x hu hx=>?_ );simp only[aaQ,List.length_range]at hx;rw[abI]at hx;split at hx
     ·rename_i hj;rw[uI _ (by omega)]at hx;have Cu:j<cn*i.size:=by omega
      rw[aaK Cu,Ng]at hx;simp[hj]at hu;subst hu;have U2:=abN j b5;have hg:zs[j%i.size]? =some (zs[j%i.size]'(by omega)):=aaI _;rw[hg,abE];obtain⟨v',h5,h6⟩:=aT.get (j%i.size) hv hg;grind
     ·cases hx
 ·cases h
theorem Qh{x:Operand}(ho:o.op=.call {callee:=.builtin .cap,args:= #[x],argTypes:= #[t]})(ht:P.underlying t=some (.slice e))(hx:ar x=some x')(h:bE ρ H ns (.cap x')=some (v,wr))(ev:Ev ρ a g w)(hh:az g w H):Good P a o g w ns v (br H wr):=by
 have dy:=ev _ _ hx;simp only[bE]at h;split at h
 ·rename_i e1;rw[e1]at dy;simp only[RV]at dy;simp only[aaC,aaE]at h;obtain⟨rfl,rfl⟩:=h;refine Good.val (x:=.int .i64 0) hh ?_ (RV.Cl _ _);simp[execOp,ho,resolve,invoke,builtin,Builtin.cap_,run_underlying ht,dy,goInt]
 ·cases h
theorem Fg{u:TypeId}{k:IntKind}{i:TypeInfo}{zs:List V}{x y:Operand}{y':a_}(ho:o.op=.call {callee:=.builtin .append,args:= #[x,y],argTypes:= #[t,u]})(ht:P.underlying t=some (.slice e))(hu:P.underlying u=some (.int k))(hi:P.info? e=some i)(hz:dj P e=some zs)(hx:ar x=some x')(hy:ar y=some y')(h:bE ρ H ns (.ly i.size i.bytes zs x' y')=some (v,wr))(ev:Ev ρ a g w)(hh:az g w H)(jT:jl g ns):Good P a o g w ns v (br H wr):=by
 simp only[dj,abv]at hz;obtain⟨zv,⟨i2,qy,zL⟩,hm⟩:=hz;rw[hi]at qy;simp only[aaC]at qy;subst qy;obtain⟨hv,iL⟩:=jn (g:=g) (w:=w) hm;have dy:=ev _ _ hx;simp only[bE]at h;split at h
 ·rename_i n e1 en;rw[e1]at dy;simp only[RV]at dy;cases hb:(Nat.blt 0 n&&Nat.ble (n*(i.bytes+1)) bI&&Nat.ble n bI&&zs.all eK&&Nat.beq zs.length i.size&&Nat.blt 0 i.size)with
   |false=>grind
   |true=>
    rw[hb]at h;simp only[aaJ,aaC,aaE]at h;obtain⟨rfl,rfl⟩:=h;simp only[aaD]at hb;have b0:0<n:=by simp_all
    have b2:=aaN hb.1.1.1.1.2;have b3:=aaN hb.1.1.1.2;have b4:=aaM hb.1.2;have b5:0<i.size:=by simp_all
    have Ff:bI=1099511627776:=by decide
    obtain⟨kn,hkn⟩:=ew en (ev _ _ hy);have Ng:zv.cells.size=i.size:=by have:=hv.length;grind
    have w1:=wrap_small (n:=n) b3;have Md:n*i.bytes<=1099511627776:=by grind
    have Qg:¬((n:Int)<0):=by omega
    have Nq:¬(281474976710656<(n:Int)*(i.bytes:Int)):=by grind
    have Wn:¬(n*i.size=0):=by rw[acz];omega
    have JL:¬(n=0\/i.size=0):=by omega
    have Wp:¬n=0:=by omega
    have U4:¬(9223372036854775807<(n:Int)):=by omega
    have Wq:Builtin.nextslicecap n 0=n:=by simp[Builtin.nextslicecap,b0]
    have Nf:¬(281474976710656<n*i.bytes):=by omega
    have fA:(execOp a.eval o).run P w=.ok (.value (.slice (some ⟨w.heap.size,0,none⟩) n (grownCap w n 0 e))) (w.drew.alloc (.cells (Builtin.zeroCells zv.cells n++Builtin.zeroCells zv.cells (grownCap w n 0 e - n)) e)):=by simp[execOp,ho,resolve,invoke,builtin,Builtin.append_,run_underlying ht,run_underlying hu,dy,hkn,asInt,asIntOf,w1,Qg,Nq,Wn,Wp,U4,Wq,Nf,Go.sizeOf,typeInfo,zeroValue,hi,zL,Question.forced,Builtin.firstCells,newRow,grownCap]
    have Qb:=grownCap_ge w n 0 e;have cK:(Builtin.zeroCells zv.cells n++Builtin.zeroCells zv.cells (grownCap w n 0 e - n)).size=grownCap w n 0 e*i.size:=by simp only[Array.size_append,size_zeroCells,Ng,←acE];grind
    have hle:n*i.size<=grownCap w n 0 e*i.size:=abc _ Qb;let g':=g.add ns (.cells w.heap.size (grownCap w n 0 e*i.size) (n*i.size));have hd:=eO g w;have he:=cg.new hh.drew jT (.cells (Builtin.zeroCells zv.cells n++Builtin.zeroCells zv.cells (grownCap w n 0 e - n)) e) (.cells w.heap.size (grownCap w n 0 e*i.size) (n*i.size)) rfl;refine⟨g',_,_,fA,.inl ⟨_,rfl,?_⟩,az.new hh.drew jT _ _ _ rfl ?_,hd.trans he,fun _ h=>h⟩
    ·exact RV.zO (cp:=grownCap w n 0 e*i.size) (.inr rfl) (by simp[g',G.add]) Qb (by omega)
    ·simp only[RB];have Cv:((List.range (n*i.size)).map fun j=>zs.getD (j%i.size) .any).all eK=true:=by simp only[aa3,aa_,ab5];rintro x ⟨j,_,rfl⟩;have:=abN j b5;grind
     refine⟨by simp,Cv,by grind,_,e,bA _ _,by grind,?_ ⟩;refine aT.ext he _ _ (aT.ext hd _ _ (aT.iy ?_ fun j u x hu hx=>?_ ))
     ·grind
     ·simp only[aaQ,List.length_range]at hx;rw[abI]at hx;split at hx
      ·rename_i hj;simp[hj]at hu;subst hu;have hj3:j<(Builtin.zeroCells zv.cells n).size:=by grind[size_zeroCells]
       have Ca:(Builtin.zeroCells zv.cells n)[j]? =some x:=by grind
       have Ws:((Array.range (n*i.size)).map (zv.cells[·%zv.cells.size]! )).toList[j]? =some x:=by grind[Builtin.zeroCells]
       rw[uI _ (by omega),aaK hj,Ng]at Ws;have U2:=abN j b5;have hg:zs[j%i.size]? =some (zs[j%i.size]'(by omega)):=aaI _;rw[hg,abE];obtain⟨v',h5,h6⟩:=aT.get (j%i.size) hv hg;grind
      ·cases hx
 ·cases h
end
end Fw
/-
  Every operation that calls nothing.
-/
namespace Fw
open Go
section
variable {P:Program}{a:Act}{o:Oper}{g:G}{w:World}{ρ:a_->V}{H:ao}{ns:Nat}
variable {v:V}{wr:Wr}
theorem DH{t:TypeId}{x:Operand}{x':a_}{k:lu}{c:Call}(ho:o.op=.call c)(hc:c.callee=.builtin .len)(nf:c.args.toList=[x])(zD:c.argTypes.toList=[t])(hx:ar x=some x')(hk:G5 P t k\/∃n e,k=.arr n/\P.underlying t=some (.array n e))(h:bE ρ H ns (.len k x')=some (v,wr))(ev:Ev ρ a g w)(hh:az g w H):Good P a o g w ns v (br H wr):=by
 obtain⟨callee,args,ts⟩:=c;have e1:args= #[x]:=abt.1 (by grind);have e2:ts= #[t]:=abt.1 (by grind);simp only at hc;subst hc;subst e1;subst e2;have Fb:∀n:Int,(Builtin.len_ #[t] o.type #[a.eval x]).run P w=.ok (goInt n) w->(execOp a.eval o).run P w=.ok (.value (goInt n)) w:=by simp_all[execOp,resolve,invoke,builtin]
 have fin:∀n:Nat,(Builtin.len_ #[t] o.type #[a.eval x]).run P w=.ok (goInt n) w->Good P a o g w ns (.d (.int .i64 n)) H:=fun n hn=>Good.val hh (Fb _ hn) (RV.Cl _ _)
 rcases hk with hk|⟨n,e,rfl,hn⟩
 ·cases k with
   |arr=>exact hk.elim
   |str=>
    simp only[bE]at h;split at h
    ·rename_i n hn;simp only[aaC,aaE]at h;obtain⟨rfl,rfl⟩:=h;exact fin n (yh hn (ev _ _ hx) hh hk)
    ·cases h
   |slice=>
    simp only[bE]at h;split at h
    ·rename_i n hn;simp only[aaC,aaE]at h;obtain⟨rfl,rfl⟩:=h;exact fin n (yh hn (ev _ _ hx) hh hk)
    ·cases h
   |map=>
    simp only[bE]at h;split at h
    ·rename_i n hn;simp only[aaC,aaE]at h;obtain⟨rfl,rfl⟩:=h;exact fin n (yh hn (ev _ _ hx) hh hk)
    ·cases h
 ·simp only[bE,aaC,aaE]at h;obtain⟨rfl,rfl⟩:=h;exact fin n (by simp[Builtin.len_,run_underlying hn])
theorem G9{c:Call}{io:lv}(ho:o.op=.call c)(hc:dQ P c=some io)(he:bE ρ H ns io=some (v,wr))(ev:Ev ρ a g w)(hh:az g w H)(jT:jl g ns):Good P a o g w ns v (br H wr):=by
 unfold dQ at hc;split at hc
 ·rename_i fT;split at hc
  ·rename_i x t nf zD;split at hc
   ·rename_i hu;simp only[aaG]at hc;obtain⟨x',hx,rfl⟩:=hc;exact DH (k:=.str) ho fT nf zD hx (.inl hu) he ev hh
   ·rename_i e hu;simp only[aaG]at hc;obtain⟨x',hx,rfl⟩:=hc;exact DH (k:=.slice) ho fT nf zD hx (.inl ⟨e,hu⟩) he ev hh
   ·rename_i k e hu;simp only[aaG]at hc;obtain⟨x',hx,rfl⟩:=hc;exact DH (k:=.map) ho fT nf zD hx (.inl ⟨k,e,hu⟩) he ev hh
   ·rename_i n e hu;simp only[aaG]at hc;obtain⟨x',hx,rfl⟩:=hc;exact DH ho fT nf zD hx (.inr ⟨n,e,rfl,hu⟩) he ev hh
   ·cases hc
  ·cases hc
 ·rename_i fT;split at hc
  ·rename_i x y t u nf zD;split at hc
   ·rename_i e k hu L7;split at hc
    ·rename_i i z x' y' hi hz hx hy;simp only[aaC]at hc;subst hc;obtain⟨callee,args,ts⟩:=c;have e1:args= #[x,y]:=abt.1 (by grind);have e2:ts= #[t,u]:=abt.1 (by grind);simp only at fT;subst fT;subst e1;subst e2;exact Fg ho hu L7 hi hz hx hy he ev hh jT
    ·cases hc
   ·rename_i e d Wt hu L7;split at hc
    ·rename_i i z x' y' hd hi hz hx hy;split at hc
     ·rename_i fZ;simp only[aaC]at hc;subst hc;simp only[bE]at he;split at he
      ·rename_i xs E9;obtain⟨callee,args,ts⟩:=c;have e1:args= #[x,y]:=abt.1 (by grind);have e2:ts= #[t,u]:=abt.1 (by grind);simp only at fT;subst fT;subst e1;subst e2;refine G6 ho rfl hu ?_ hi hz fZ.1 fZ.2 hx hy E9 he ev hh jT;cases d<;>simp[M3]at hd;all_goals grind
      ·cases he
     ·cases hc
    ·cases hc
   ·cases hc
  ·cases hc
 ·rename_i fT;split at hc
  ·rename_i x t nf zD;split at hc
   ·rename_i e hu;simp only[aaG]at hc;obtain⟨x',hx,rfl⟩:=hc;obtain⟨callee,args,ts⟩:=c;have e1:args= #[x]:=abt.1 (by grind);have e2:ts= #[t]:=abt.1 (by grind);simp only at fT;subst fT;subst e1;subst e2;exact Qh ho hu hx he ev hh
   ·cases hc
  ·cases hc
 ·rename_i fT;simp only[aaG]at hc;obtain⟨l,hl,rfl⟩:=hc;have hH:wr=none:=by grind[bE,Option.map_eq_some_iff,Prod.mk.injEq]
  subst hH;obtain⟨callee,args,ts⟩:=c;simp only at fT;subst fT;exact zS (isMax:=false) ho hl he ev hh
 ·rename_i fT;simp only[aaG]at hc;obtain⟨l,hl,rfl⟩:=hc;have hH:wr=none:=by grind[bE,Option.map_eq_some_iff,Prod.mk.injEq]
  subst hH;obtain⟨callee,args,ts⟩:=c;simp only at fT;subst fT;exact zS (isMax:=true) ho hl he ev hh
 all_goals grind[Option.map_eq_some_iff,bE]
theorem zV{io:lv}(hc:bq P o.op=some io)(he:bE ρ H ns io=some (v,wr))(ev:Ev ρ a g w)(hh:az g w H)(jT:jl g ns):Good P a o g w ns v (br H wr):=by
 unfold bq at hc;split at hc
 ·rename_i x ho;simp only[aaG]at hc;obtain⟨x',hx,rfl⟩:=hc;simp only[bE,aaC,aaE]at he;obtain⟨rfl,rfl⟩:=he;exact P7 (.inl ho) hx ev hh
 ·rename_i x ho;simp only[aaG]at hc;obtain⟨x',hx,rfl⟩:=hc;simp only[bE,aaC,aaE]at he;obtain⟨rfl,rfl⟩:=he;exact P7 (.inr ho) hx ev hh
 ·rename_i c x y ho;split at hc
  ·rename_i c' x' y' h1 h2 h3;simp only[aaC]at hc;subst hc;simp only[bE]at he;split at he
   ·rename_i b hb;simp only[aaC,aaE]at he;obtain⟨rfl,rfl⟩:=he;exact M5 ho h1 h2 h3 hb ev hh
   ·cases he
  ·cases hc
 ·rename_i t ho;simp only[aaG]at hc;obtain⟨z,hz,rfl⟩:=hc;simp only[bE,aaC,aaE]at he;obtain⟨rfl,rfl⟩:=he;exact JZ ho hz hh jT
 ·rename_i t x ho;split at hc
  ·rename_i n x' hn hx;simp only[aaC]at hc;subst hc;simp only[bE]at he;cases fZ:(Nat.beq (cl (ρ x')).length n&&(cl (ρ x')).all eK)with
    |false=>grind
    |true=>rw[fZ]at he;simp only[aaJ,aaC,aaE]at he;simp only[aaD]at fZ;obtain⟨rfl,rfl⟩:=he;rw[←aaM fZ.1];exact P8 ho hx fZ.2 ev hh jT
  ·cases hc
 ·rename_i t ps ho;split at hc
  ·rename_i fs z ht hz;split at hc
   ·rename_i GV tO;simp only[aaG]at hc;obtain⟨qs,hq,rfl⟩:=hc;simp only[bE,aaG,aaE]at he;obtain⟨cs,qz,rfl,rfl⟩:=he;refine DB ho hz (fun i zv parts hi zL=>?_ ) hq qz ev hh;grind[Program.built]
   ·cases hc
  ·rename_i n e z ht hz;split at hc
   ·rename_i ie Z_;simp only[aaG]at hc;obtain⟨qs,hq,rfl⟩:=hc;simp only[bE,aaG,aaE]at he;obtain⟨cs,qz,rfl,rfl⟩:=he;refine DB ho hz (fun i zv parts hi zL=>?_ ) hq qz ev hh;grind[Program.built]
   ·cases hc
  ·cases hc
 ·rename_i t len ps ho;split at hc
  ·rename_i e ht;split at hc
   ·rename_i s z hs hz;split at hc
    ·rename_i fZ;simp only[aaG]at hc;obtain⟨qs,hq,rfl⟩:=hc;simp only[bE]at he;cases Pv:(Nat.beq ((List.range (len*s)).map fun i=>z.getD (i%s) .any).length (len*s)&&((List.range (len*s)).map fun i=>z.getD (i%s) .any).all eK)with
      |false=>grind
      |true=>rw[Pv]at he;simp only[aaJ,aaG,aaE]at he;obtain⟨cs,qz,rfl,rfl⟩:=he;obtain⟨k1,k2⟩:=E7 ho ht hs hz fZ.1 fZ.2.1 fZ.2.2 hq qz ev hh jT;rw[k2]at k1;exact k1
    ·cases hc
   ·cases hc
  ·cases hc
 ·rename_i t x ho;split at hc
  ·rename_i n b x' hn hb hx;split at hc
   ·simp only[aaC]at hc;subst hc;simp only[bE]at he;split at he
    ·rename_i cs qz;simp only[aaG,aaE]at he;obtain⟨v',jF,rfl,rfl⟩:=he;exact M7 ho hn hb hx qz jF ev hh
    ·cases he
   ·cases hc
  ·cases hc
 ·rename_i t x y ho;split at hc
  ·rename_i n x' y' hn hx hy;simp only[aaC]at hc;subst hc;simp only[bE,aaG,aaE]at he;obtain⟨H2,h2,rfl,rfl⟩:=he;exact J1 ho hn hx hy h2 ev hh
  ·cases hc
 ·rename_i x ho;simp only[aaG]at hc;obtain⟨x',hx,rfl⟩:=hc;have hH:wr=none:=by grind[bE,Option.some.injEq,Prod.mk.injEq,reduceCtorEq]
  subst hH;exact GZ ho hx he ev hh
 ·rename_i op t x y yt ho;split at hc
  ·rename_i x' y' hx hy;have aai:∀{io:lv},io=.bin op x' y'->bE ρ H ns io=some (v,wr)->Good P a o g w ns v (br H wr):=by rintro io rfl he;simp only[bE,aaG,aaE]at he;obtain⟨v',jF,rfl,rfl⟩:=he;exact P' ho hx hy jF ev hh
   have heq:∀{io:lv}{k:rM}{neg:Bool},io=.eq neg k x' y'->bE ρ H ns io=some (v,wr)->((op=.eql/\neg=false)\/(op=.neq/\neg=true))->(match k with| .bool=>P.underlying t=some .bool| .ptr=>∃e,P.underlying t=some (.pointer e)| .iface=>(∃e,P.underlying t=some (.interface e))/\((∃c,x=.const c)\/∃c,y=.const c)| .slice=>∃e,P.underlying t=some (.slice e)| .func=>∃s:Array TypeId×Array TypeId×Bool,P.underlying t=some (.func s.1 s.2.1 s.2.2))->Good P a o g w ns v (br H wr):=by rintro io k neg rfl he kx hk;simp only[bE,aaG,aaE]at he;obtain⟨b,hb,rfl,rfl⟩:=he;exact V9 ho kx hk hx hy hb ev hh
   split at hc
   ·split at hc
    ·grind
    ·grind
    ·grind
    ·grind
    ·rename_i fs hu;simp only[aaG]at hc;obtain⟨ks,Np,rfl⟩:=hc;simp only[bE]at he;split at he
     ·rename_i us e1;split at he
      ·rename_i vs e2;split at he
       ·rename_i r pF;simp only[aaC,aaE]at he;obtain⟨rfl,rfl⟩:=he;exact Mc ho (.inl ⟨rfl,rfl⟩) Np hx hy e1 e2 pF ev hh
       ·cases he
      ·cases he
     ·cases he
    all_goals grind
   ·split at hc
    ·grind
    ·grind
    ·grind
    ·grind
    ·rename_i fs hu;simp only[aaG]at hc;obtain⟨ks,Np,rfl⟩:=hc;simp only[bE]at he;split at he
     ·rename_i us e1;split at he
      ·rename_i vs e2;split at he
       ·rename_i r pF;simp only[aaC,aaE]at he;obtain⟨rfl,rfl⟩:=he;exact Mc ho (.inr ⟨rfl,rfl⟩) Np hx hy e1 e2 pF ev hh
       ·cases he
      ·cases he
     ·cases he
    all_goals grind
   grind
  ·cases hc
 ·rename_i op t x ho;simp only[aaG]at hc;obtain⟨x',hx,rfl⟩:=hc;simp only[bE,aaG,aaE]at he;obtain⟨v',jF,rfl,rfl⟩:=he;exact V' ho hx jF ev hh
 ·rename_i s d x ho;split at hc
  ·rename_i k0 k x' hs hd hx;simp only[aaC]at hc;subst hc;simp only[bE]at he;split at he
   ·rename_i k1 n e;simp only[aaC,aaE]at he;obtain⟨rfl,rfl⟩:=he;exact M8 ho hs hd hx e ev hh
   ·cases he
  ·rename_i el x' hs hd hx;split at hc
   ·rename_i Nr;simp only[aaC]at hc;subst hc;simp only[bE]at he;split at he
    ·rename_i l e;simp only[aaC,aaE]at he;obtain⟨rfl,rfl⟩:=he;exact Ct ho hs hd Nr hx e ev hh
    ·cases he
   ·cases hc
  ·cases hc
 ·rename_i f p q ho;split at hc
  ·rename_i p' q' hp hq;simp only[aaC]at hc;subst hc;simp only[bE,aaC,aaE]at he;obtain⟨rfl,rfl⟩:=he;exact G4 ho hp hq ev hh
  ·cases hc
 ·rename_i t ho;simp only[aaC]at hc;subst hc;simp only[bE,aaC,aaE]at he;obtain⟨rfl,rfl⟩:=he;exact J8 ho hh jT
 ·rename_i t l c ho;split at hc
  ·rename_i e l' c' ht hl Pv;split at hc
   ·rename_i i z hi hz;simp only[aaC]at hc;subst hc;exact Kd ho ht hi hz hl Pv he ev hh jT
   ·cases hc
  ·cases hc
 ·rename_i t x lo hi ho;split at hc
  ·rename_i x' DA lE hx kQ jD;split at hc
   ·rename_i ht;simp only[aaC]at hc;subst hc;simp only[bE]at he;split at he
    ·rename_i s e;simp only[aaG]at he;obtain⟨⟨l,h⟩,hb,he⟩:=he;simp only[aaE]at he;obtain⟨rfl,rfl⟩:=he;exact G0 ho ht hx kQ jD e hb ev hh
    ·cases he
   ·rename_i el ht;simp only[aaG]at hc;obtain⟨s,hs,rfl⟩:=hc;simp only[bE]at he;split at he
    ·rename_i es e;cases hl:es.all (fun e=>Nat.beq e.length s)with
      |false=>grind
      |true=>rw[hl]at he;simp only[aaJ,aaG]at he;obtain⟨⟨l,h⟩,hb,he⟩:=he;simp only[aaE]at he;obtain⟨rfl,rfl⟩:=he;exact G1 ho ht hs hx kQ jD e hl hb ev hh
    ·rename_i b U8 off len w_ e;cases hl:(Nat.beq s w_&&ff H b U8)with
      |false=>grind
      |true=>rw[hl]at he;simp only[aaJ,aaG]at he;obtain⟨⟨l,h⟩,zP,he⟩:=he;simp only[aaE]at he;obtain⟨rfl,rfl⟩:=he;simp only[aaD]at hl;have:=aaM hl.1;subst this;exact E' ho ht hs hx kQ jD e hl.2 zP ev hh
    ·rename_i e;simp only[aaG]at he;obtain⟨⟨l,h⟩,zP,he⟩:=he;simp only[aaE]at he;obtain⟨rfl,rfl⟩:=he;exact E_ ho ht hs hx kQ jD e zP ev hh
    ·cases he
   ·cases hc
  ·cases hc
 ·rename_i t x hi mx ho;split at hc
  ·rename_i x' lE P6 hx jD J4;split at hc
   ·rename_i el ht;simp only[aaG]at hc;obtain⟨s,hs,rfl⟩:=hc;simp only[bE]at he;split at he
    ·rename_i es h m e h1 h2;cases hl:(es.all (fun e=>Nat.beq e.length s)&&Nat.beq h m&&Nat.ble h es.length)with
      |false=>grind
      |true=>rw[hl]at he;simp only[aaJ,aaC,aaE]at he;obtain⟨rfl,rfl⟩:=he;simp only[aaD]at hl;have:=aaM hl.1.2;subst this;exact M9 ho ht hs hx jD J4 e hl.1.1 h1 h2 (aaN hl.2) ev hh
    ·cases he
   ·cases hc
  ·cases hc
 ·rename_i s x f ho;split at hc
  ·rename_i fs x' ht hx;split at hc
   ·rename_i off n hf;split at hc
    ·rename_i h0;simp only[aaC]at hc;subst hc;have hH:wr=none:=by grind[bE,Option.some.injEq,Prod.mk.injEq,reduceCtorEq]
     subst hH;exact J5 ho ht hf h0 hx he ev hh
    ·cases hc
   ·cases hc
  ·cases hc
 ·rename_i t x i ho;split at hc
  ·rename_i x' i' hx hi;split at hc
   ·rename_i e ht;simp only[aaG]at hc;obtain⟨s,hs,rfl⟩:=hc;have hH:wr=none:=by grind[bE]
    subst hH;exact J6 ho ht hs hx hi he ev hh
   ·rename_i n e ht;simp only[aaG]at hc;obtain⟨s,hs,rfl⟩:=hc;have hH:wr=none:=by simp only[bE]at he;grind
    subst hH;exact G3 ho ht hs hx hi he ev hh
   ·cases hc
  ·cases hc
 ·rename_i t x i ho;split at hc
  ·rename_i x' i' hx hi;split at hc
   ·rename_i ht;simp only[aaC]at hc;subst hc;have hH:wr=none:=by grind[bE,Option.some.injEq,Prod.mk.injEq,reduceCtorEq]
    subst hH;exact M' ho ht hx hi he ev hh
   ·rename_i n e ht;split at hc
    ·rename_i s b hs hb;split at hc
     ·rename_i h1;simp only[aaC]at hc;subst hc;simp only[bE]at he;split at he
      ·cases he
      ·rename_i j ej;split at he
       ·rename_i cs e';cases hl:(Nat.blt j n&&Nat.ble (n*s) cs.length)with
         |false=>grind
         |true=>rw[hl]at he;simp only[aaJ,aaG,aaE]at he;simp only[aaD]at hl;obtain⟨v',jF,rfl,rfl⟩:=he;exact M_ ho ht hs hb h1 hx hi ej e' (by simp_all) (aaN hl.2) jF ev hh
       ·cases he
     ·cases hc
    ·cases hc
   ·cases hc
  ·cases hc
 ·rename_i x i ho;simp only[aaG]at hc;obtain⟨x',hx,rfl⟩:=hc;simp only[bE]at he;split at he
  ·rename_i vs e;simp only[aaG,aaE]at he;obtain⟨v',jF,rfl,rfl⟩:=he;exact P_ ho hx e jF ev hh
  ·cases he
 ·rename_i t x ho;split at hc
  ·cases hc
  ·rename_i d x' Wt ht hx;simp only[aaC]at hc;subst hc;simp only[bE,aaC,aaE]at he;obtain⟨rfl,rfl⟩:=he;exact Fa ho ht (fun m hm=>Wt m hm) hx ev hh
  ·cases hc
 ·rename_i t m k ok ho;have hl:∀{kk:dq}{z:V}{m' k':a_},bE ρ H ns (.lookup kk z ok m' k')=some (v,wr)->wr=none:=by intro kk z m' k' he;simp only[bE]at he;grind
  split at hc
  ·rename_i kt e m' k' ht hm hk;split at hc
   ·rename_i z q hz qw;simp only[aaC]at hc;subst hc;have:=hl he;subst this;exact uL (kk:=.int) ho ht ⟨q,qw⟩ hz hm hk he ev hh
   ·rename_i z hz qw;simp only[aaC]at hc;subst hc;have:=hl he;subst this;exact uL (kk:=.str) ho ht qw hz hm hk he ev hh
   ·rename_i z hz qw;simp only[aaC]at hc;subst hc;have:=hl he;subst this;exact uL (kk:=.bool) ho ht qw hz hm hk he ev hh
   ·cases hc
  ·cases hc
 ·rename_i t m k x ho;split at hc
  ·rename_i kt e m' k' x' ht hm hk hx;split at hc
   ·rename_i q qw;simp only[aaC]at hc;subst hc;exact uN (kk:=.int) ho ht ⟨q,qw⟩ hm hk hx he ev hh
   ·rename_i qw;simp only[aaC]at hc;subst hc;exact uN (kk:=.str) ho ht qw hm hk hx he ev hh
   ·rename_i qw;simp only[aaC]at hc;subst hc;exact uN (kk:=.bool) ho ht qw hm hk hx he ev hh
   ·cases hc
  ·cases hc
 ·rename_i t x ho;split at hc
  ·rename_i kt el ht;simp only[aaG]at hc;obtain⟨x',hx,rfl⟩:=hc;exact J9 ho ht hx he ev hh jT
  ·cases hc
 ·grind[Option.map_eq_some_iff,bE]
 ·rename_i it ho;simp only[aaG]at hc;obtain⟨x',hx,rfl⟩:=hc;exact J' ho hx he ev hh
 ·rename_i c ho;exact G9 ho hc he ev hh jT
 ·cases hc
end
end Fw
/-
  A box that nobody writes any more is known as data from then on.
-/
namespace Fw
open Go
theorem iQ(sz n:Nat)(l:List D):(gv sz n l).length=n:=by induction n generalizing l<;>grind[gv]
theorem dC.nT{w:World}{im:Nat->Prop}{aU:Nat}:∀{ds:List D}{vs:List Value}{off:Nat},ds.length=vs.length->(∀(j:Nat)(d:D)(v:Value),ds[j]? =some d->vs[j]? =some v->Rd w im d v)->(∀(j:Nat)(v:Value),vs[j]? =some v->w.cell? ⟨aU,off+j,none⟩=some v)->dC w im aU off ds
 |[],_,_,_,_,_=>by simp only[dC]
 |d::ds,[],_,hl,_,_=>by simp at hl
 |d::ds,v::vs,off,hl,h1,h2=>by simp only[dC];refine⟨⟨v,by have:=h2 0 v rfl;grind,h1 0 d v rfl rfl⟩,dC.nT (vs:=vs) (by grind) (fun j d' v' hd hv=>h1 (j+1) d' v' (by grind) (by grind)) (fun j v' hv=>?_ )⟩;have:=h2 (j+1) v' (by grind);grind
theorem dC.take{w:World}{im:Nat->Prop}{aU:Nat}:∀(k:Nat)(ds:List D)(q:Nat),dC w im aU q ds->dC w im aU q (ds.take k):=by
 intro k ds;induction ds generalizing k with
  |nil=>grind
  |cons d ds ih=>intro q hq;cases k<;>grind[dC]
theorem lJ{w:World}{im:Nat->Prop}{aU sz:Nat}:∀{n:Nat}{off:Nat}{l:List D},n*sz<=l.length->dC w im aU off l->iu w im aU off sz (gv sz n l)
 |0,_,_,_,_=>by grind[gv,iu]
 |n+1,off,l,hl,h=>by
  simp only[gv,iu];have hle:sz<=l.length:=by grind
  refine⟨by simp;omega,dC.take _ _ _ h,?_ ⟩;exact lJ (by grind) (dC.drop sz h)
mutual
def bS(b:Nat)(ds:List D):V->V| .ptr c h off=>bif Nat.beq c b then(bif Nat.beq h ds.length then .bB (ds.drop off)else .any)else .ptr c h off| .sl c h off len sz=>bif Nat.beq c b then(bif Nat.beq h ds.length&&Nat.ble (off+len*sz) h then .d (.list (gv sz len (ds.drop off)))else .any)else .sl c h off len sz| .map c=>bif Nat.beq c b then .any else .map c| .iter c m=>bif Nat.beq c b then .any else .iter c m| .func f a c=>.func f (jG b ds a) (jG b ds c)| .iface t v=>.iface t (bS b ds v)| .agg cs=>.agg (jG b ds cs)| .tuple vs=>.tuple (jG b ds vs)|v=>v
def jG(b:Nat)(ds:List D):List V->List V|[]=>[]|v::vs=>bS b ds v::jG b ds vs
end
def f_(b:Nat)(ds:List D):fJ->fJ
 | .cells cs=>.cells (jG b ds cs)
 | .map es=>.map (es.map fun p=>(p.1,bS b ds p.2))
 |x=>x
def iA(b:Nat)(ds:List D)(n:Nat):ao->ao|[]=>[]|x::H=>(bif Nat.beq n b then none else x.map (f_ b ds))::iA b ds (n+1) H
def jY:Option fJ->Bool|some (.cells cs)=>cs.all eK|_=>true
def wN(H:ao)(b:Nat):Option (List D):=match aF H b with
 |some (.cells cs)=>ji cs
 |some .nil=>some []
 |_=>none
def G.del(g:G)(b:Nat):G:=⟨g.cV,fun c=>if c=b then none else g.γ c,g.fo⟩
theorem rU(b:Nat)(ds:List D):∀(H:ao)(n c:Nat),aF (iA b ds n H) c=if n+c=b then none else(aF H c).map (f_ b ds)
 |[],n,c=>by simp[iA,aF]
 |x::H,n,0=>by simp_all[iA,aF,acj]
 |x::H,n,c+1=>by simp only[iA,aF];rw[rU b ds H (n+1) c];grind
theorem tl(b:Nat)(ds:List D):∀(H:ao)(n:Nat),(iA b ds n H).length=H.length|[],_=>rfl|x::H,n=>by simp[iA,tl b ds H (n+1)]
theorem lK{g:G}{w:World}{b k:Nat}(h:cZ g w k):cZ (g.del b) w k:=by
 refine⟨h.1,h.2.1,fun c x hx=>?_ ⟩;simp only[G.del]at hx;split at hx
 ·cases hx
 ·exact h.2.2 c x hx
theorem lL:∀{cs:List V}{ds:List D},ji cs=some ds->cs.length=ds.length/\∀(i:Nat)(d:D),ds[i]? =some d->cs[i]? =some (.d d)\/(cs[i]? =some .ad/\d=.list [])
 |[],ds,h=>by grind[ji,Option.some.injEq]
 |c::cs,ds,h=>by
  cases c with
   |d x=>simp only[ji,aaG]at h;obtain⟨ds',h1,rfl⟩:=h;obtain⟨h2,h3⟩:=lL h1;grind
   |ad=>simp only[ji,aaG]at h;obtain⟨ds',h1,rfl⟩:=h;obtain⟨h2,h3⟩:=lL h1;grind
   |_=>simp[ji]at h
def uO(g:G)(w:World)(b:Nat)(ds:List D):Prop:=match g.γ b with
 |some (.cells aU _ cur)=>cur=ds.length/\cZ (g.del b) w aU/\dC w (cZ (g.del b) w) aU 0 ds
 |some .nil=>ds=[]
 |_=>False
theorem G'{g:G}{w:World}{H:ao}{b:Nat}{ds:List D}(hh:az g w H)(h:wN H b=some ds):uO g w b ds:=by
 unfold wN at h;split at h
 ·rename_i cs hg;obtain⟨x,hx⟩:=hh.back b _ hg;obtain⟨_,y,hy,hr⟩:=hh.live b x hx;rw[hg]at hy;simp only[aaC]at hy;subst hy;obtain⟨hl,Me⟩:=lL h;unfold uO;rw[hx];cases x with
   |cells aU cp cur=>
    have b8:=hr.lt aU rfl;have JK:=hh.zJ hx rfl;simp only[RB]at hr;obtain⟨r1,r2,r3,c,e,r4,r5,r6⟩:=hr;have wO:cZ (g.del b) w aU:=by
     refine⟨b8,JK,fun c' x' je hk=>?_ ⟩;simp only[G.del]at je;split at je
     ·cases je
     ·rename_i fq;exact fq (hh.inj c' b x' _ aU je hx hk rfl)
    refine⟨by omega,wO,?_ ⟩;have hvl:=r6.length;refine dC.nT (vs:=c.toList.take cs.length) (by omega) (fun j d v hd hv=>?_ ) (fun j v hv=>?_ )
    ·rcases Me j d hd with hc|⟨hc,rfl⟩
     ·obtain⟨v',jF,zN⟩:=aT.get j r6 hc;rw[hv]at jF;simp only[aaC]at jF;subst jF;simp only[RV]at zN;exact Rd.keeps (fun k hk=>⟨lK hk,rfl⟩) _ _ zN
     ·obtain⟨v',jF,zN⟩:=aT.get j r6 hc;grind[Option.some.injEq,RV,Rd]
    grind[World.cell?]
   |nil=>grind[RB]
   |obj=>grind[RB]
 ·rename_i hg;simp only[aaC]at h;subst h;obtain⟨x,hx⟩:=hh.back b _ hg;obtain⟨_,y,hy,hr⟩:=hh.live b x hx;rw[hg]at hy;simp only[aaC]at hy;subst hy;unfold uO;grind[RB]
 ·cases h
mutual
theorem RV.qh{g:G}{w:World}{b:Nat}{ds:List D}(hf:uO g w b ds):∀(u:V)(v:Value),RV g w u v->RV (g.del b) w (bS b ds u) v
 | .any,_,_=>by grind[bS,RV]
 | .d x,v,hv=>by simp only[bS,RV]at hv⊢;exact Rd.keeps (fun k hk=>⟨lK hk,rfl⟩) _ _ hv
 | .full es,v,hv=>by simp only[bS,RV]at hv⊢;exact⟨Rd.keeps (fun k hk=>⟨lK hk,rfl⟩) _ _ hv.1,hv.2⟩
 | .ad,_,hv=>by grind[bS,RV]
 | .ptr c h off,v,hv=>by
  simp only[bS];by_cases hc:c=b
  ·subst hc;simp only[aa4,aaJ];cases hb:Nat.beq h ds.length with
    |false=>simp only[aaT,RV]
    |true=>
     simp only[aaJ];have he:=aaM hb;simp only[RV]at hv⊢;unfold uO at hf;split at hf
     ·rename_i aU cp cur Fh;obtain⟨f1,f2,f3⟩:=hf;obtain⟨aaj,cp',Fi,e1,e2,e3⟩:=hv.2 _ Fh;simp only[GB.cells.injEq]at e1;obtain⟨rfl,rfl,rfl⟩:=e1;exact⟨aU,off,e2 (by omega),fun _=>f2,by simpa using dC.drop off f3⟩
     all_goals grind
  ·rw[cB hc,aaT];simp_all[RV,G.del]
 | .mW,_,hv=>by grind[bS,RV]
 | .bB cs,v,hv=>by
  simp only[bS,RV]at hv⊢;obtain⟨aU,off,h1,h2,h3⟩:=hv;refine⟨aU,off,h1,fun hn=>lK (h2 hn),?_ ⟩;cases cs with
   |nil=>simp only[dC]
   |cons c cs=>exact dC.keeps (im:=cZ g w) (xd:=cZ (g.del b) w) (fun k hk=>⟨lK hk,rfl⟩) (h2 (by simp)) _ _ h3
 | .sl c h off len sz,v,hv=>by
  simp only[bS];by_cases hc:c=b
  ·subst hc;simp only[aa4,aaJ];cases hb:(Nat.beq h ds.length&&Nat.ble (off+len*sz) h)with
    |false=>simp only[aaT,RV]
    |true=>
     simp only[aaJ];simp only[aaD]at hb;have he:=aaM hb.1;have hle:=aaN hb.2;simp only[RV,Rd,iQ]at hv⊢;unfold uO at hf;split at hf
     ·rename_i aU cp cur Fh;obtain⟨f1,f2,f3⟩:=hf;have hx:=hv.2 _ Fh;obtain⟨cap,k1,k2,k3⟩:=hx.2 (by omega);right;exact⟨aU,off,cap,sz,k1,k2,fun _=>f2,lJ (by simp;omega) (by simpa using dC.drop off f3)⟩
     ·rename_i Fh;have hx:=hv.2 _ Fh;obtain⟨rfl,rfl,rfl,rfl⟩:=hx;left;exact⟨rfl,.inl rfl⟩
     grind
  ·rw[cB hc,aaT];simp_all[RV,G.del]
 | .map c,v,hv=>by
  simp only[bS];by_cases hc:c=b
  ·simp_all[aa4,aaJ,RV]
  ·rw[cB hc,aaT];simp_all[RV,G.del]
 | .mX,_,hv=>by grind[bS,RV]
 | .func f a c,v,hv=>by simp only[bS,RV]at hv⊢;obtain⟨x,y,h1,h2,h3⟩:=hv;exact⟨x,y,h1,aT.qh hf _ _ h2,aT.qh hf _ _ h3⟩
 | .rL,_,hv=>by grind[bS,RV]
 | .iface t u,v,hv=>by simp only[bS,RV]at hv⊢;obtain⟨x,h1,h2⟩:=hv;exact⟨x,h1,RV.qh hf _ _ h2⟩
 | .bN,_,hv=>by grind[bS,RV]
 | .gm,_,hv=>by grind[bS,RV]
 | .agg cs,v,hv=>by simp only[bS,RV]at hv⊢;obtain⟨x,h1,h2⟩:=hv;exact⟨x,h1,aT.qh hf _ _ h2⟩
 | .tuple vs,v,hv=>by simp only[bS,RV]at hv⊢;obtain⟨x,h1,h2⟩:=hv;exact⟨x,h1,aT.qh hf _ _ h2⟩
 | .iter c _,v,hv=>by
  simp only[bS];by_cases hc:c=b
  ·simp_all[aa4,aaJ,RV]
  ·rw[cB hc,aaT];simp_all[RV,G.del]
theorem aT.qh{g:G}{w:World}{b:Nat}{ds:List D}(hf:uO g w b ds):∀(us:List V)(vs:List Value),aT g w us vs->aT (g.del b) w (jG b ds us) vs
 |[],[],_=>by grind[jG,aT]
 |u::us,v::vs,hv=>by simp only[jG,aT]at hv⊢;exact⟨RV.qh hf _ _ hv.1,aT.qh hf _ _ hv.2⟩
 |[],_::_,hv=>by grind[aT]
 |_::_,[],hv=>by grind[aT]
end
variable {g:G}{w:World}{b:Nat}
theorem jZ(b:Nat)(ds:List D):∀(l:List V),(jG b ds l).length=l.length|[]=>rfl|_::l=>by simp[jG,jZ b ds l]
theorem cg.qh(g0:G)(w0:World)(h:cg g0 w0 g w):cg g0 w0 (g.del b) w:=⟨h.os,h.tape,h.output,h.size,fun k hk=>⟨lK (h.keeps k hk).1,(h.keeps k hk).2⟩,h.cV,fun c hc=>by
 simp only[G.del];split
 ·grind[GB.step]
 ·exact h.step c hc,h.fo,h.fp⟩
theorem az.qh{H:ao}{ds:List D}(hh:az g w H)(h:wN H b=some ds)(iL:(iA b ds 0 H).all jY=true):az (g.del b) w (iA b ds 0 H):=by
 have hf:=G' hh h;refine⟨fun c hc=>by rw[tl];exact hh.cV c hc,fun c x hx=>?_,fun c y hy=>?_,fun c c' x x' k hx je hk lC=>?_,fun k hk=>⟨(hh.fo k hk).1,fun c x hx=>?_ ⟩⟩
 ·simp only[G.del]at hx;split at hx
  ·cases hx
  ·rename_i Md;obtain⟨h1,y,h2,h3⟩:=hh.live c x hx;have hg:aF (iA b ds 0 H) c=some (f_ b ds y):=by grind[rU]
   refine⟨h1,_,hg,?_⟩;cases x with
    |cells aU cp cur=>
     cases y with
      |cells cs=>
       simp only[RB,f_]at h3⊢;obtain⟨r1,r2,r3,cc,e,r4,r5,r6⟩:=h3;refine⟨by grind[jZ],?_,by grind[jZ],cc,e,r4,r5,?_ ⟩
       ·have hm:some (fJ.cells (jG b ds cs))∈iA b ds 0 H:=by
         have:∀(H:ao)(c:Nat)(y:fJ),aF H c=some y->some y∈H:=by
          intro H;induction H with
           |nil=>grind[aF]
           |cons z H ih=>intro c y hy;cases c<;>grind[aF]
         exact this _ _ _ hg
        grind[jY]
       ·rw[jZ];exact aT.qh hf _ _ r6
      |_=>grind[RB]
    |nil=>grind[RB,f_]
    |obj aU=>
     cases y with
      |map es=>simp only[RB,f_]at h3⊢;obtain⟨bO,clock,e1,e2,e3,e4,e5⟩:=h3;refine⟨bO,clock,e1,by simp[e2],fun i k v hi=>?_,e4,e5⟩;simp only[abz,aaG,aaE]at hi;obtain⟨⟨k',v'⟩,lE,rfl,rfl⟩:=hi;obtain⟨z,z1,z2,z3,z4⟩:=e3 i k' v' lE;exact⟨z,z1,z2,Rd.keeps (fun k hk=>⟨lK hk,rfl⟩) _ _ z3,RV.qh hf _ _ z4⟩
      |Dw s pos=>grind[RB,f_]
      |iH m n seen=>simp only[RB,f_]at h3⊢;obtain⟨mb,sa,e1,e2,e3,e4⟩:=h3;refine⟨mb,sa,e1,e2,e3,fun x hx=>e4 x ?_ ⟩;grind[G.del]
      |_=>grind[RB]
 ·rw[rU]at hy;split at hy
  ·cases hy
  ·rename_i Md;simp only[aaG]at hy;obtain⟨y',uJ,rfl⟩:=hy;obtain⟨x,hx⟩:=hh.back c y' uJ;grind[G.del]
 ·simp only[G.del]at hx je;split at hx
  ·cases hx
  ·split at je
   ·cases je
   ·exact hh.inj c c' x x' k hx je hk lC
 ·simp only[G.del]at hx;split at hx
  ·cases hx
  ·exact(hh.fo k hk).2 c x hx
def kS(b:Nat)(σ:St):Option St:=match wN σ.hp b with
 |some ds=>bif (iA b ds 0 σ.hp).all jY then some ⟨σ.n,σ.tm.map fun p=>(p.1,bS b ds p.2),iA b ds 0 σ.hp⟩else none
 |none=>none
theorem lM(f:V->V)(hf:f .any=.any):∀(l:List (Nat×V))(t:Nat),get (l.map fun p=>(p.1,f p.2)) t=f (get l t)
 |[],t=>by simp[get,hf]
 |(s,u)::l,t=>by simp only[aaV,get,lM f hf l t];grind
theorem R.qh{GL:ch}{a:Act}{σ aY:St}(h:R GL g w a σ)(hc:kS b σ=some aY):R GL (g.del b) w a aY:=by
 unfold kS at hc;split at hc
 ·rename_i ds Me;cases iL:(iA b ds 0 σ.hp).all jY with
   |false=>grind
   |true=>rw[iL]at hc;simp only[aaJ,aaC]at hc;subst hc;refine⟨h.defers,h.size,fun t=>?_,h.heap.qh Me iL,h.dJ.ext (cg.qh _ _ (cg.refl _ _))⟩;simp only;rw[lM (bS b ds) (by simp only[bS])];exact RV.qh (G' h.heap Me) _ _ (h.tmps t)
 ·cases hc
def jo(ρ:a_->V):lv->Option V
 | .mkSlice sz len z ps=>
  match iK ρ z ps with
   |some cs=>
    match ji cs with
     |some ds=>some (bif Nat.beq len 0 then .full []else .d (.list (gv sz len ds)))
     |none=>none
   |none=>none
 | .append sz bytes x y=>
  match ρ x,ρ y with
   | .full es,.d (.list ys)=>bif es.all (fun e=>Nat.beq e.length sz)&&ys.all (fun e=>Nat.beq e.length sz)&& !ys.isEmpty&&Nat.ble ((es.flatten.length+ys.flatten.length)*(bytes+1)) bI then some (.d (.list (es++ys)))else none
   |_,_=>none
 |_=>none
section
variable {P:Program}{a:Act}{o:Oper}{g:G}{w:World}{ρ:a_->V}{H:ao}{ns:Nat}
variable {sz:Nat}
theorem yj{op:Op}{len:Nat}{z:List V}{ps:List (Nat×Nat×a_)}(h:bq P op=some (.mkSlice sz len z ps)):∃t e z0 qs,op=.buildSlice t len qs/\P.underlying t=some (.slice e)/\gB P e=some sz/\dj P e=some z0/\len*sz<=2^24/\z0.length=sz/\0<sz/\dD (fun i=>some (i*sz,sz)) qs.toList=some ps/\z=(List.range (len*sz)).map fun i=>z0.getD (i%sz) .any:=by
 cases op with
  |buildSlice t aak qs=>grind[bq,Option.map_eq_some_iff,lv.mkSlice.injEq]
  |makeFunc fn a b=>exfalso;cases fn<;>(grind[bq])
  |makeMap t r=>exfalso;cases r<;>(grind[bq])
  |slice t x lo hi mx=>exfalso;cases mx<;>cases lo<;>cases hi<;>(simp only[bq]at h;(repeat' split at h)<;>simp at h)
  |call c=>exfalso;simp only[bq,dQ]at h;(repeat' split at h)<;>simp at h
  |_=>exfalso;simp only[bq]at h;(repeat' split at h)<;>simp at h
theorem cg.G_{g:G}{w:World}{H:ao}(hh:az g w H)(o:Obj):cg g w g (w.alloc o)/\az g (w.alloc o) H/\cZ g (w.alloc o) w.heap.size:=by
 have he:cg g w g (w.alloc o):=⟨rfl,rfl,rfl,by simp,fun k hk=>⟨⟨by have:=hk.1;simp;omega,hk.2⟩,cE _ _ hk.1⟩,fun _ h=>h,fun _ _=>GB.step.refl _,rfl,fun k hk=>cE _ _ (hh.fo k hk).1⟩;have pE:∀b x k,g.γ b=some x->x.own=some k->k<w.heap.size:=fun b x k hx hk=>by obtain⟨_,y,_,hr⟩:=hh.live b x hx;exact hr.lt k hk
 refine⟨he,hh.ext he (fun b x k hx hk=>cE _ _ (pE b x k hx hk)),by simp,fun h=>?_,fun b x hx hk=>?_ ⟩
 ·have:=(hh.fo _ h).1;omega
 grind
theorem zW{op:Op}{bytes:Nat}{x' y':a_}(h:bq P op=some (.append sz bytes x' y')):∃(x y:Operand)(t u e:TypeId)(i:TypeInfo)(z:List V),op=.call {callee:=.builtin .append,args:= #[x,y],argTypes:= #[t,u]}/\P.underlying t=some (.slice e)/\((∃e2,P.underlying u=some (.slice e2))\/P.underlying u=some .string)/\P.info? e=some i/\dj P e=some z/\0<i.size/\z.length=i.size/\ar x=some x'/\ar y=some y'/\sz=i.size/\bytes=i.bytes:=by
 cases op with
  |call c=>
   simp only[bq]at h;obtain⟨callee,args,ts⟩:=c;unfold dQ at h;split at h
   ·exfalso;(repeat' split at h)<;>simp at h
   ·rename_i fT;split at h
    ·rename_i x y t u nf zD;split at h
     ·grind
     ·rename_i e d Wt hu L7;split at h
      ·rename_i i z x1 y1 hd hi hz hx hy;split at h
       ·rename_i fZ;simp only[aaC,lv.append.injEq]at h;obtain⟨rfl,rfl,rfl,rfl⟩:=h;have e1:args= #[x,y]:=abt.1 (by grind);have e2:ts= #[t,u]:=abt.1 (by grind);simp only at fT;subst fT;subst e1;subst e2;refine⟨x,y,t,u,e,i,z,rfl,hu,?_,hi,hz,fZ.1,fZ.2,hx,hy,rfl,rfl⟩;cases d<;>simp[M3]at hd;all_goals grind
       ·cases h
      ·cases h
     ·cases h
    ·cases h
   all_goals (exfalso;(repeat' split at h)<;>simp at h)
  |makeFunc fn a b=>exfalso;cases fn<;>(grind[bq])
  |makeMap t r=>exfalso;cases r<;>(grind[bq])
  |slice t x lo hi mx=>exfalso;cases mx<;>cases lo<;>cases hi<;>(simp only[bq]at h;(repeat' split at h)<;>simp at h)
  |_=>exfalso;simp only[bq]at h;(repeat' split at h)<;>simp at h
theorem Ha{bytes:Nat}{x' y':a_}{es ys:List (List D)}(kx:bq P o.op=some (.append sz bytes x' y'))(ex:ρ x'=.full es)(ey:ρ y'=.d (.list ys))(hc:(es.all (fun e=>Nat.beq e.length sz)&&ys.all (fun e=>Nat.beq e.length sz)&& !ys.isEmpty&&Nat.ble ((es.flatten.length+ys.flatten.length)*(bytes+1)) bI)=true)(ev:Ev ρ a g w)(hh:az g w H):∃w' r,(execOp a.eval o).run P w=.ok (.value r) w'/\RV g w' (.d (.list (es++ys))) r/\az g w' H/\cg g w g w':=by
 obtain⟨x,y,t,u,e,i,zs,ho,ht,hu,hi,hz,h0,V6,hx,hy,rfl,rfl⟩:=zW kx;have dy:=ev _ _ hx;have gk:=ev _ _ hy;rw[ex]at dy;rw[ey]at gk;simp only[aaD]at hc;obtain⟨⟨⟨c1,c2⟩,c3⟩,c4⟩:=hc;simp only[dj,abv]at hz;obtain⟨z,⟨i',lE,zL⟩,hm⟩:=hz;rw[hi]at lE;simp only[aaC]at lE;subst lE;have Ng:z.cells.size=i.size:=by have:=cA hm;grind
 have hsy:bt H i.size (.d (.list ys))=some (ys.flatten.map .d):=by simp only[bt,c2,aaJ]
 have hsx:bt H i.size (.d (.list es))=some (es.flatten.map .d):=by simp only[bt,c1,aaJ]
 simp only[RV]at dy;obtain⟨hd,a0,hv⟩:=dy;have Wf:RV g w (.d (.list es)) (a.eval x):=by grind[RV]
 obtain⟨n,news,f1,-,f3,f4⟩:=jd (P:=P) hsy gk hh h0;obtain⟨n',eA,-,Wd,L_,Z7⟩:=jd (P:=P) hsy (RV.ext (eO g w) _ _ gk) hh.drew h0;obtain⟨m,ky,q1,q2,q3,q4⟩:=jd (P:=P) hsx (RV.ext (eO g w) _ _ Wf) hh.drew h0;have Ps:n'=n:=by
  have e1:=L_.length;have e2:=f3.length;have:n'*i.size=n*i.size:=by omega
  exact acQ h0 this
 subst Ps;rw[hv]at q1 q2;have Wu:m=es.length:=by simp_all[Builtin.lenOf]
 subst Wu;have U9:ys.flatten.length=n'*i.size:=by have:=f3.length;grind
 have U':es.flatten.length=es.length*i.size:=by have:=q3.length;grind
 have DD:∀(l:List (List D)),l.all (fun e=>Nat.beq e.length i.size)=true->l.flatten.length=l.length*i.size:=by
  intro l hl;induction l with
   |nil=>simp
   |cons e l ih=>simp only[aaX,aaD]at hl;simp only[List.flatten_cons,aaZ,aaR];rw[ih hl.2,aaM hl.1,acE];omega
 have hyn:ys.length=n':=by have:=DD ys c2;rw[U9]at this;exact(acQ h0 this).symm
 have pD:0<n':=by grind
 have c4:=aaN c4;have hle:es.length+n'<=es.flatten.length+ys.flatten.length:=by rw[U',U9,←acE];exact acd _ h0
 have hb:(es.length+n')*i.bytes<=140737488355328:=by
  have e1:(es.length+n')*i.bytes<=(es.flatten.length+ys.flatten.length)*(i.bytes+1):=Nat.mul_le_mul hle (by omega);have e2:bI<=140737488355328:=by decide
  omega
 have U4:es.length+n'<=140737488355328:=by
  have e1:es.length+n'<=(es.flatten.length+ys.flatten.length)*(i.bytes+1):=abl hle (acd _ (by omega));have e2:bI<=140737488355328:=by decide
  omega
 have hr:=qu (ty:=o.type) ht hu hi zL f1 Wd q2 (by omega) (by omega) (growslice_fits (by omega) hb);have Qi:(execOp a.eval o).run P w=.ok (.value (.slice (some ⟨w.heap.size,0,none⟩) (es.length+n') (grownCap w (es.length+n') es.length e))) (w.drew.alloc (.cells (ky.toArray++eA.toArray++Builtin.zeroCells z.cells (grownCap w (es.length+n') es.length e - (es.length+n'))) e)):=by simp_all[execOp,resolve,invoke,builtin]
 obtain⟨g1,g2,g3⟩:=cg.G_ hh.drew (.cells (ky.toArray++eA.toArray++Builtin.zeroCells z.cells (grownCap w (es.length+n') es.length e - (es.length+n'))) e);refine⟨_,_,Qi,?_,g2,(eO g w).trans g1⟩;simp only[RV,Rd];right;have hlen:(es++ys).length=es.length+n':=by grind
 refine⟨w.heap.size,0,_,i.size,by rw[hlen],by rw[hlen];exact grownCap_ge _ _ _ _,fun _=>g3,?_ ⟩;have lN:(es++ys).all (fun e=>Nat.beq e.length i.size)=true:=by grind
 have U_:es++ys=gv i.size (es.length+n') ((es++ys).flatten):=by
  rw[←hlen];have:∀(l:List (List D)),l.all (fun e=>Nat.beq e.length i.size)=true->l=gv i.size l.length l.flatten:=by
   intro l hl;induction l with
    |nil=>rfl
    |cons e l ih=>simp only[aaX,aaD]at hl;have Nr:=aaM hl.1;grind[List.flatten_cons,List.length_cons,gv,List.take_left,List.drop_left]
  grind
 rw[U_];have M6:(es++ys).flatten.length=(es.length+n')*i.size:=by grind
 have Cw:aT g w.drew ((es++ys).flatten.map .d) (ky++eA):=by rw[List.flatten_append,abB];exact aT.append q3 L_
 refine lJ (by omega) ?_;refine dC.nT (vs:=ky++eA) ?_ (fun j d v hd hv=>?_ ) (fun j v hv=>?_ )
 ·grind
 ·obtain⟨v',jF,zN⟩:=aT.get j Cw (show((es++ys).flatten.map V.d)[j]? =some (.d d) by grind);rw[hv]at jF;simp only[aaC]at jF;subst jF;simp only[RV]at zN;exact Rd.keeps g1.keeps _ _ zN
 ·have hs:(w.drew.alloc (.cells (ky.toArray++eA.toArray++Builtin.zeroCells z.cells (grownCap w (es.length+n') es.length e - (es.length+n'))) e)).heap[w.heap.size]? =some (.cells (ky.toArray++eA.toArray++Builtin.zeroCells z.cells (grownCap w (es.length+n') es.length e - (es.length+n'))) e (0,0)):=bA _ _;simp only[World.cell?,hs,aaY];grind
theorem xg{io:lv}{v:V}(kx:bq P o.op=some io)(he:jo ρ io=some v)(ev:Ev ρ a g w)(hh:az g w H):∃w' x,(execOp a.eval o).run P w=.ok (.value x) w'/\RV g w' v x/\az g w' H/\cg g w g w':=by
 cases io with
  |mkSlice sz len z ps=>
   simp only[jo]at he;split at he
   ·rename_i cs qz;split at he
    ·rename_i ds Me;simp only[aaC]at he;subst he;obtain⟨t,e,z0,qs,ho,hu,hs,hz,h1,h2,h3,hq,rfl⟩:=yj kx;obtain⟨c',k1,k2,k3,k4⟩:=th ho hu hs hz h1 h2 h3 hq qz ev;obtain⟨f1,f2,f3⟩:=cg.G_ hh (.cells c' e);refine⟨_,_,k4,?_,f2,f1⟩;cases Qg:Nat.beq len 0 with
      |true=>simp_all[aaJ,RV,Rd,aa']
      |false=>
       simp only[aaT,RV,Rd,iQ];right;obtain⟨hl,aF⟩:=lL Me;have hk:=k1.length;refine⟨_,0,len,sz,rfl,aaP _,fun _=>f3,lJ (by omega) ?_ ⟩;refine dC.nT (vs:=c'.toList) (by omega) (fun j d v hd hv=>?_ ) (fun j v hv=>?_ )
       ·rcases aF j d hd with hc|⟨hc,rfl⟩
        ·obtain⟨v',jF,zN⟩:=aT.get j k1 hc;rw[hv]at jF;simp only[aaC]at jF;subst jF;simp only[RV]at zN;exact Rd.keeps f1.keeps _ _ zN
        ·obtain⟨v',jF,zN⟩:=aT.get j k1 hc;grind[Option.some.injEq,RV,Rd]
       simp_all
    ·cases he
   ·cases he
  |append sz bytes x' y'=>
   simp only[jo]at he;split at he
   ·rename_i es ys ex ey;cases hc:(es.all (fun e=>Nat.beq e.length sz)&&ys.all (fun e=>Nat.beq e.length sz)&& !ys.isEmpty&&Nat.ble ((es.flatten.length+ys.flatten.length)*(bytes+1)) bI)with
     |false=>grind
     |true=>rw[hc]at he;simp only[aaJ,aaC]at he;subst he;exact Ha kx ex ey hc ev hh
   ·cases he
  |_=>grind[jo]
end
end Fw
