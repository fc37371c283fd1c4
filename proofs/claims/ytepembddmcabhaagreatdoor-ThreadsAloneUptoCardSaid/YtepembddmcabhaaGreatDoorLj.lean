/- Part Lj. -/
import Derived.Test.YtepembddmcabhaaGreatDoorLi
set_option linter.unusedVariables false
namespace Go.Px
noncomputable section
set_option maxRecDepth 100000
set_option maxHeartbeats 4000000
set_option synthInstance.maxHeartbeats 4000000
set_option synthInstance.maxSize 100000
instance (x):TW (q5h x):=⟨_,fun a e=>by rw [zeL,<- e]⟩
instance(x):TW (q9l x):=by delta q9l qfh q7p;infer_instance
instance(x):TW (q6z x):=by delta q6z qbr;infer_instance
instance(x):TW (qaw x):=by delta qaw qcr qfd;infer_instance
instance(x):TW (q24 x):=by delta q24 qcs;infer_instance
instance(x):TW (q63 x):=by delta q63 qfu;infer_instance
instance(x):TW (qan x):=by delta qan qe2;infer_instance
instance(x):TW (qa0 x):=by delta qa0 qbs qe5;infer_instance
instance(x):TW (q85 x):=by delta q85 qag;infer_instance
instance(x):TW (q9k x):=by delta q9k qfi;infer_instance
instance(x):TW (q54 x):=by delta q54 q7w;infer_instance
instance(x):TW (q9c x):=by delta q9c qb8 qdl;infer_instance
instance(x):TW (q2v x):=by delta q2v qca;infer_instance
instance(x):TW (q2g x):=by delta q2g q7a q1i;infer_instance
instance(x):TW (q49 x):=by delta q49 qad;infer_instance
instance(x):TW (q9m x):=by delta q9m qd6;infer_instance
instance(x):TW (q4x x):=by delta q4x qao q8g;infer_instance
instance(x):TW (q5s x):=by delta q5s qap q8h q8i;infer_instance
instance(x):TW (q7l x):=by delta q7l qcb;infer_instance
instance(x):TW (q6k x):=by delta q6k qb9;infer_instance
instance(x):TW (q6b x):=by delta q6b qd7 qbp;infer_instance
instance(x):TW (qa3 x):=by delta qa3 qet;infer_instance
instance(x):TW (qa5 x):=by delta qa5 qfv;infer_instance
instance(x):TW (qbi x):=by delta qbi qd2 qaq;infer_instance
instance(x):TW (q50 x):=by delta q50 qcc;infer_instance
instance(x):TW (q76 x):=by delta q76 qd8;infer_instance
instance(x):TW (q8j x):=by delta q8j qdz;infer_instance
instance(x):TW (qbj x):=by delta qbj qd3 qar;infer_instance
instance(x):TW (q51 x):=by delta q51 qcd;infer_instance
instance(x):TW (qas x):=by delta qas qfm qco;infer_instance
instance(x):TW (q6u x):=by delta q6u qeu qbq;infer_instance
instance (x):TW (q2e x):=⟨_,fun a e=>by rw [zc1,<- e]⟩
instance(x):TW (q1b x):=by delta q1b q8x q6l;infer_instance
instance(x):TW (q15 x):=by delta q15 qbt q55;infer_instance
instance(x):TW (q1a x):=by delta q1a qah q4b;infer_instance
instance(x):TW (q19 x):=by delta q19 q7x;infer_instance
instance(x):TW (q3x x):=by delta q3x q9u q5j q4g q9t q5k q3p;repeat(first | (with_reducible(first | refine TWb ?_ fun _=>?_|refine TWi ?_ ?_|refine TWe (fun _=>?_) fun _=>?_))|infer_instance)
instance(x):TW (q2u x):=by delta q2u q7y q4m;infer_instance
instance(x):TW (q1z x):=by delta q1z q8y;infer_instance
instance(x):TW (q3y x):=by delta q3y q9v q5l q5m q5n;infer_instance
instance(x):TW (q2j x):=by delta q2j q8z q56;infer_instance
instance(x):TW (q2x x):=by delta q2x q70 q45;infer_instance
instance(x):TW (q30 x):=by delta q30 qbu;infer_instance
instance(x):TW (q1w x):=by delta q1w qai;infer_instance
instance(x):TW (q73 x):=by delta q73 qd4;infer_instance
instance(x):TW (qax x):=by delta qax qct q5z;infer_instance
instance(x):TW (q48 x):=by delta q48 qe3;infer_instance
instance(x):TW (q31 x):=by delta q31 q90 q41;infer_instance
instance(x):TW (q13 x):=by delta q13 qaj;infer_instance
instance(x):TW (q42 x):=by delta q42 q81;infer_instance
instance(x):TW (q4q x):=by delta q4q qak;infer_instance
instance(x):TW (q7q x):=by delta q7q qbh q74;infer_instance
instance(x):TW (q1e x):=by delta q1e q9x;infer_instance
instance(x):TW (q5o x):=by delta q5o q91 q6m;infer_instance
instance(x):TW (q1t x):=by delta q1t q92;infer_instance
instance(x):TW (q20 x):=by delta q20 q93;infer_instance
instance(x):TW (q2w x):=by delta q2w q9y;infer_instance
instance(x):TW (q4c x):=by delta q4c qa7;infer_instance
instance(x):TW (q3k x):=by delta q3k qat q6n;infer_instance
instance(x):TW (q1s x):=by delta q1s q7e q5r;infer_instance
instance{h} [∀ x,TW (h x)](x):TW (q4u h x):=by delta q4u q68 q4r q1x;infer_instance
instance(k x):TW (q2k k x):=twk (fun h t x=>inferInstance) (fun _=>rfl) (fun _ _=>rfl) k x
instance(x):TW (q3h x):=by delta q3h;infer_instance
instance(x):TW (qa6 x):=by delta qa6 qe0;infer_instance
instance(x):TW (qa4 x):=by delta qa4 qg4;infer_instance
instance(x):TW (q3c x):=by delta q3c qfn;infer_instance
instance(x):TW (qb5 x):=by delta qb5 qg5 qd1;infer_instance
instance(x):TW (q2h x):=by delta q2h qbf;infer_instance
instance(x):TW (q6d x):=by delta q6d qbg;infer_instance
instance{h} [∀ x,TW (h x)](x):TW (q2c h x):=by delta q2c q4h;infer_instance
instance{h} [∀ x,TW (h x)](x):TW (q1v h x):=by delta q1v q5b;infer_instance
instance{h} [∀ x,TW (h x)](x):TW (q61 h x):=by delta q61 q7o q7m;infer_instance
instance(k x):TW (q2f k x):=twk (fun h t x=>inferInstance) (fun _=>rfl) (fun _ _=>rfl) k x
instance(x):TW (q8k x):=by delta q8k;infer_instance
instance(x):TW (q5c x):=by delta q5c qe1 qcl;infer_instance
instance(x):TW (q3b x):=by delta q3b qa1;infer_instance
instance(x):TW (q60 x):=by delta q60 qce;infer_instance
instance(x):TW (q58 x):=by delta q58 qba;infer_instance
instance(x):TW (q77 x):=by delta q77 qd9 q6o q6p;infer_instance
instance(x):TW (q16 x):=by delta q16 q99;infer_instance
instance(x):TW (q3q x):=by delta q3q q9a q59;infer_instance
instance(x):TW (q3r x):=by delta q3r q9b q5a;infer_instance
instance(x):TW (q2a x):=by delta q2a q7f q4d;infer_instance
instance(x):TW (q4i x):=by delta q4i q94;infer_instance
instance(x):TW (q1h x):=by delta q1h q95;infer_instance
instance(x):TW (q32 x):=by delta q32 q96 q6q;infer_instance
instance(x):TW (q2l x):=by delta q2l q97 q43;infer_instance
instance(x):TW (q33 x):=by delta q33 q98;infer_instance
instance(x):TW (q2m x):=by delta q2m q7g q3m;infer_instance
instance(x):TW (q1f x):=by delta q1f q2n q4j;infer_instance
instance{h} [∀ x,TW (h x)](x):TW (q4v h x):=by delta q4v q69 q4s q37;infer_instance
instance(k x):TW (q2o k x):=twk (fun h t x=>inferInstance) (fun _=>rfl) (fun _ _=>rfl) k x
instance(x):TW (q44 x):=by delta q44;infer_instance
instance(x):TW (q1r x):=by delta q1r qcu;infer_instance
instance(x):TW (q57 x):=by delta q57 qbb q64;infer_instance
instance(x):TW (q5y x):=by delta q5y q9w;infer_instance
instance(x):TW (q1u x):=by delta q1u q7z;infer_instance
instance{h} [∀ x,TW (h x)](x):TW (q4w h x):=by delta q4w q6a q4n q4o q36;infer_instance
instance(k x):TW (q29 k x):=twk (fun h t x=>inferInstance) (fun _=>rfl) (fun _ _=>rfl) k x
instance(x):TW (q40 x):=by delta q40;infer_instance
instance(x):TW (q25 x):=by delta q25 q80 q4p;infer_instance
instance(x):TW (q3i x):=by delta q3i q82 q38 q39;infer_instance
instance(x):TW (q3a x):=by delta q3a q7h q4e;infer_instance
instance(x):TW (q1j x):=by delta q1j q83 q4t;infer_instance
instance(x):TW (q75 x):=by delta q75 qd5;infer_instance
instance(x):TW (q4z x):=by delta q4z qav q6r;infer_instance
instance(x):TW (q5u x):=by delta q5u qc8;infer_instance
instance(x):TW (q4y x):=by delta q4y qau;infer_instance
instance(x):TW (q7n x):=by delta q7n q9z q5p;infer_instance
instance(x):TW (q3j x):=by delta q3j q84;infer_instance
instance(x):TW (q22 x):=by delta q22 qc9 q7r;infer_instance
instance(x):TW (qa8 x):=by delta qa8 qdi;infer_instance
instance(x):TW (q1g x):=by delta q1g qbc;infer_instance
theorem zs0:q1g ()=some true:=TW.run inferInstance (by kernel_rfl)
end
theorem zs1 x:zgK.F x=some true:=by rw [qfj];exact zqS zs0 x
end Go.Px
