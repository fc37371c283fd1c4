/- Part Lj: Px18WK Px18L1. -/
import Derived.Test.YtpcipfnohfefhaaGreatDoorLi
set_option linter.unusedVariables false
set_option linter.unusedSimpArgs false
namespace Go.Px
noncomputable section
set_option maxRecDepth 100000
set_option maxHeartbeats 4000000
set_option synthInstance.maxHeartbeats 4000000
set_option synthInstance.maxSize 100000
instance (x):TW (q1o x):=⟨_,fun a e=>by rw [zet,<- e]⟩
instance(x):TW (q83 x):=by delta q83 qfk q6f;infer_instance
instance(x):TW (q5t x):=by delta q5t qae;infer_instance
instance(x):TW (q9h x):=by delta q9h qbf qf6;infer_instance
instance(x):TW (q23 x):=by delta q23 qbg;infer_instance
instance(x):TW (q51 x):=by delta q51 qg4;infer_instance
instance(x):TW (q9a x):=by delta q9a qd3;infer_instance
instance(x):TW (q8j x):=by delta q8j qaf qd7;infer_instance
instance(x):TW (q6o x):=by delta q6o q92;infer_instance
instance(x):TW (q82 x):=by delta q82 qfl;infer_instance
instance(x):TW (q47 x):=by delta q47 q6j;infer_instance
instance(x):TW (q7t x):=by delta q7t q9u qcc;infer_instance
instance(x):TW (q2p x):=by delta q2p qaw;infer_instance
instance(x):TW (q2e x):=by delta q2e q63 q1g;infer_instance
instance(x):TW (q3l x):=by delta q3l q8y;repeat(first | (with_reducible(first | refine TWb ?_ fun _=>?_|refine TWi ?_ ?_|refine TWe (fun _=>?_) fun _=>?_))|infer_instance)
instance(x):TW (q84 x):=by delta q84 qbv;infer_instance
instance(x):TW (q42 x):=by delta q42 q9b q73;repeat(first | (with_reducible(first | refine TWb ?_ fun _=>?_|refine TWi ?_ ?_|refine TWe (fun _=>?_) fun _=>?_))|infer_instance)
instance(x):TW (q4s x):=by delta q4s q9c q74 q75;repeat(first | (with_reducible(first | refine TWb ?_ fun _=>?_|refine TWi ?_ ?_|refine TWe (fun _=>?_) fun _=>?_))|infer_instance)
instance(x):TW (q6c x):=by delta q6c qax;infer_instance
instance(x):TW (q5e x):=by delta q5e q9v;infer_instance
instance(x):TW (q3f x):=by delta q3f qbw qac;infer_instance
instance(x):TW (q8n x):=by delta q8n qeb;infer_instance
instance(x):TW (q8q x):=by delta q8q qg5;infer_instance
instance(x):TW (qa5 x):=by delta qa5 qbr q9d;infer_instance
instance(x):TW (q43 x):=by delta q43 qay;infer_instance
instance(x):TW (q62 x):=by delta q62 qbx;infer_instance
instance(x):TW (q76 x):=by delta q76 qcz;infer_instance
instance(x):TW (qa6 x):=by delta qa6 qbs q9e;infer_instance
instance(x):TW (q44 x):=by delta q44 qaz;infer_instance
instance(x):TW (q9f x):=by delta q9f qfn qbc;repeat(first | (with_reducible(first | refine TWb ?_ fun _=>?_|refine TWi ?_ ?_|refine TWe (fun _=>?_) fun _=>?_))|infer_instance)
instance(x):TW (q3y x):=by delta q3y qec qad;infer_instance
instance (x):TW (q22 x):=⟨_,fun a e=>by rw [zhi,<- e]⟩
instance(x):TW (q1a x):=by delta q1a q7l q5f;infer_instance
instance(x):TW (q17 x):=by delta q17 qag q48;infer_instance
instance(x):TW (q19 x):=by delta q19 q93 q3n;infer_instance
instance(x):TW (q18 x):=by delta q18 q6k;infer_instance
instance(x):TW (q3d x):=by delta q3d q8e q4k q3q q8d q4l q39;repeat(first | (with_reducible(first | refine TWb ?_ fun _=>?_|refine TWi ?_ ?_|refine TWe (fun _=>?_) fun _=>?_))|infer_instance)
instance(x):TW (q1t x):=by delta q1t q6l q3x;infer_instance
instance(x):TW (q1y x):=by delta q1y q7m;infer_instance
instance(x):TW (q3e x):=by delta q3e q8f q4m q4n q4o;repeat(first | (with_reducible(first | refine TWb ?_ fun _=>?_|refine TWi ?_ ?_|refine TWe (fun _=>?_) fun _=>?_))|infer_instance)
instance(x):TW (q1r x):=by delta q1r q7n q49;infer_instance
instance(x):TW (q1c x):=by delta q1c q5v q3j;infer_instance
instance(x):TW (q2t x):=by delta q2t qah;infer_instance
instance(x):TW (q1v x):=by delta q1v q94;infer_instance
instance(x):TW (q60 x):=by delta q60 qbt;infer_instance
instance(x):TW (q9i x):=by delta q9i qbh q4x;infer_instance
instance(x):TW (q2d x):=by delta q2d qd4;infer_instance
instance(x):TW (q2u x):=by delta q2u q7p q3h;repeat(first | (with_reducible(first | refine TWb ?_ fun _=>?_|refine TWi ?_ ?_|refine TWe (fun _=>?_) fun _=>?_))|infer_instance)
instance(x):TW (q14 x):=by delta q14 q95;infer_instance
instance(x):TW (q3i x):=by delta q3i q6n;infer_instance
instance(x):TW (q3z x):=by delta q3z q96;infer_instance
instance(x):TW (q6g x):=by delta q6g qa4 q61;infer_instance
instance(x):TW (q1d x):=by delta q1d q8g;repeat(first | (with_reducible(first | refine TWb ?_ fun _=>?_|refine TWi ?_ ?_|refine TWe (fun _=>?_) fun _=>?_))|infer_instance)
instance(x):TW (q4p x):=by delta q4p q7q q5i;infer_instance
instance(x):TW (q1s x):=by delta q1s q7r;infer_instance
instance(x):TW (q1z x):=by delta q1z q7s;repeat(first | (with_reducible(first | refine TWb ?_ fun _=>?_|refine TWi ?_ ?_|refine TWe (fun _=>?_) fun _=>?_))|infer_instance)
instance(x):TW (q2q x):=by delta q2q q8h;infer_instance
instance(x):TW (q3o x):=by delta q3o q8t;infer_instance
instance(x):TW (q35 x):=by delta q35 q9g q5j;infer_instance
instance(x):TW (q1p x):=by delta q1p q67 q4r;infer_instance
instance{h} [∀ x,TW (h x)](x):TW (q41 h x):=by delta q41 q55 q40 q1w;repeat(first | (with_reducible(first | refine TWb ?_ fun _=>?_|refine TWi ?_ ?_|refine TWe (fun _=>?_) fun _=>?_))|infer_instance)
instance(k x):TW (q27 k x):=twk (fun h t x=>inferInstance) (fun _=>rfl) (fun _ _=>rfl) k x
instance(x):TW (q33 x):=by delta q33;infer_instance
instance(x):TW (q8r x):=by delta q8r qd0;infer_instance
instance(x):TW (q8o x):=by delta q8o qgk;infer_instance
instance(x):TW (q2y x):=by delta q2y qfo;infer_instance
instance(x):TW (q9r x):=by delta q9r qgl qbq;infer_instance
instance(x):TW (q2f x):=by delta q2f qa2;infer_instance
instance(x):TW (q57 x):=by delta q57 qa3;repeat(first | (with_reducible(first | refine TWb ?_ fun _=>?_|refine TWi ?_ ?_|refine TWe (fun _=>?_) fun _=>?_))|infer_instance)
instance{h} [∀ x,TW (h x)](x):TW (q29 h x):=by delta q29 q3r;infer_instance
instance{h} [∀ x,TW (h x)](x):TW (q1u h x):=by delta q1u q4d;repeat(first | (with_reducible(first | refine TWb ?_ fun _=>?_|refine TWi ?_ ?_|refine TWe (fun _=>?_) fun _=>?_))|infer_instance)
instance{h} [∀ x,TW (h x)](x):TW (q4z h x):=by delta q4z q6e q6d;infer_instance
instance(k x):TW (q2c k x):=twk (fun h t x=>inferInstance) (fun _=>rfl) (fun _ _=>rfl) k x
instance(x):TW (q77 x):=by delta q77;infer_instance
instance(x):TW (q5u x):=by delta q5u qd1 qb9;infer_instance
instance(x):TW (q2x x):=by delta q2x q8k;infer_instance
instance(x):TW (q4y x):=by delta q4y qb0;infer_instance
instance(x):TW (q4a x):=by delta q4a q9w;infer_instance
instance(x):TW (q2g x):=by delta q2g qby q5k q5l;repeat(first | (with_reducible(first | refine TWb ?_ fun _=>?_|refine TWi ?_ ?_|refine TWe (fun _=>?_) fun _=>?_))|infer_instance)
instance(x):TW (q1e x):=by delta q1e q9x;repeat(first | (with_reducible(first | refine TWb ?_ fun _=>?_|refine TWi ?_ ?_|refine TWe (fun _=>?_) fun _=>?_))|infer_instance)
theorem zrP:q1e ()=some true:=TW.run inferInstance (by kernel_rfl)
end
theorem zrQ x:zgn.F x=some true:=by rw [qg6];exact zpT zrP x
end Go.Px
